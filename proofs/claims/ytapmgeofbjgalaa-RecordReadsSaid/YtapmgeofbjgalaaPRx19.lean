-- Written by wip/printx.py, a program of this work over the kit's print, for this claim.
import Derived.Test.YtapmgeofbjgalaaPRx0
import Derived.Test.YtapmgeofbjgalaaPRx2
import Derived.Test.YtapmgeofbjgalaaPRx12
import Derived.Test.YtapmgeofbjgalaaPRx14
import Derived.Test.YtapmgeofbjgalaaPRx16
import Derived.Test.YtapmgeofbjgalaaPRx17
import Derived.Test.YtapmgeofbjgalaaPRx18
namespace Go.Proofs.Ytapmgeofbjgalaa.PR
open Go.RowKit Go.Proofs.YtapmgeofbjgalaaW.PrintWords Go.Proofs.YtapmgeofbjgalaaW.PrintLast Go.Proofs.YtapmgeofbjgalaaW.PrintMore
attribute [local go_sem] max2_int min2_int max_two min_two max_three min_three max_four min_four   -- for this text's walks alone
attribute [local go_sem] Ext.pick_u8 Ext.pick_u32 Ext.pick_u64
set_option linter.unusedVariables false
set_option linter.unusedSimpArgs false



/-! ### terrierref13_Decode: function 22 -/
mutual
def terrierref13_Decode.j0 : Nat → List Int → Option (List Int × List Int × Int × Int × Int × Int × Bool × Bool)
 | 0, _ => none
 | k + 1, x0 => (terrierref01_Reader_Text.f k x0 1 0 64).bind fun bt308 => (if 0 < (x0.length : Int) then (if (rd x0 0) = 2 then (if bt308.2.2 = 0 then (if (bt308.1.length : Int) > 0 then ((terrierref13_Tomb.f k bt308.1).bind fun t314 => ((terrierref01_Same.f t314 x0).bind fun t317 => (terrierref13_Decode.j1 k t317 bt308.1 0 0 0 0))) else (terrierref13_Decode.j1 k false bt308.1 0 0 0 0)) else (terrierref13_Decode.j1 k false bt308.1 0 0 0 0)) else (terrierref13_Decode.j2 k x0 x0 bt308.2.1 bt308.2.2 bt308.1 0 0 0 0)) else (none))
def terrierref13_Decode.j2 : Nat → List Int → List Int → Int → Int → List Int → Int → Int → Int → Int → Option (List Int × List Int × Int × Int × Int × Int × Bool × Bool)
 | 0, _, _, _, _, _, _, _, _, _ => none
 | k + 1, x0, x307000, x307001, x307002, x308000, x308002, x308003, x308004, x308005 => (terrierref01_Reader_Num.f k x307000 x307001 x307002 8).bind fun bt318 => ((terrierref01_Reader_Num.f k x307000 bt318.2.1 bt318.2.2 8).bind fun bt321 => ((terrierref01_Reader_Num.f k x307000 bt321.2.1 bt321.2.2 8).bind fun bt324 => ((terrierref01_Reader_Num.f k x307000 bt324.2.1 bt324.2.2 8).bind fun bt327 => ((terrierref01_Reader_Text.f k x307000 bt327.2.1 bt327.2.2 1024).bind fun bt330 => (if bt330.2.2 = 0 then ((terrierref13_Right.f x308000 bt330.1 (wrap64 (bt318.1)) (wrap64 (bt321.1)) (wrap64 (bt324.1)) (wrap64 (bt327.1))).bind fun t335 => (if t335 = true then ((terrierref13_Encode.f k x308000 bt330.1 (wrap64 (bt318.1)) (wrap64 (bt321.1)) (wrap64 (bt324.1)) (wrap64 (bt327.1))).bind fun t336 => ((terrierref01_Same.f t336 x0).bind fun t339 => (terrierref13_Decode.j3 k (!t339) x308000 bt330.1 (wrap64 (bt318.1)) (wrap64 (bt321.1)) (wrap64 (bt324.1)) (wrap64 (bt327.1))))) else (terrierref13_Decode.j3 k true x308000 bt330.1 (wrap64 (bt318.1)) (wrap64 (bt321.1)) (wrap64 (bt324.1)) (wrap64 (bt327.1))))) else (terrierref13_Decode.j3 k true x308000 bt330.1 (wrap64 (bt318.1)) (wrap64 (bt321.1)) (wrap64 (bt324.1)) (wrap64 (bt327.1))))))))
def terrierref13_Decode.j3 : Nat → Bool → List Int → List Int → Int → Int → Int → Int → Option (List Int × List Int × Int × Int × Int × Int × Bool × Bool)
 | 0, _, _, _, _, _, _, _ => none
 | k + 1, x77, x308000, x308001, x308002, x308003, x308004, x308005 => if x77 = true then (some (([] : List Int), ([] : List Int), 0, 0, 0, 0, false, false)) else (some (x308000, x308001, x308002, x308003, x308004, x308005, false, true))
def terrierref13_Decode.j1 : Nat → Bool → List Int → Int → Int → Int → Int → Option (List Int × List Int × Int × Int × Int × Int × Bool × Bool)
 | 0, _, _, _, _, _, _ => none
 | k + 1, x39, x308000, x308002, x308003, x308004, x308005 => if x39 = true then (some (x308000, ([] : List Int), x308002, x308003, x308004, x308005, true, true)) else (some (([] : List Int), ([] : List Int), 0, 0, 0, 0, false, false))
end
def terrierref13_Decode.f (k : Nat) (l0 : List Int) : Option (List Int × List Int × Int × Int × Int × Int × Bool × Bool) := if (l0.length : Int) = 0 then (some (([] : List Int), ([] : List Int), 0, 0, 0, 0, false, false)) else (terrierref13_Decode.j0 k l0)
theorem terrierref13_Decode.mono_l : ∀ k, (∀ y0, LeO (terrierref13_Decode.j0 k y0) (terrierref13_Decode.j0 (k + 1) y0)) ∧ (∀ y0 y1 y2 y3 y4 y5 y6 y7 y8, LeO (terrierref13_Decode.j2 k y0 y1 y2 y3 y4 y5 y6 y7 y8) (terrierref13_Decode.j2 (k + 1) y0 y1 y2 y3 y4 y5 y6 y7 y8)) ∧ (∀ y0 y1 y2 y3 y4 y5 y6, LeO (terrierref13_Decode.j3 k y0 y1 y2 y3 y4 y5 y6) (terrierref13_Decode.j3 (k + 1) y0 y1 y2 y3 y4 y5 y6)) ∧ (∀ y0 y1 y2 y3 y4 y5, LeO (terrierref13_Decode.j1 k y0 y1 y2 y3 y4 y5) (terrierref13_Decode.j1 (k + 1) y0 y1 y2 y3 y4 y5))
 | 0 => ⟨fun _ r h => by simp [terrierref13_Decode.j0] at h, fun _ _ _ _ _ _ _ _ _ r h => by simp [terrierref13_Decode.j2] at h, fun _ _ _ _ _ _ _ r h => by simp [terrierref13_Decode.j3] at h, fun _ _ _ _ _ _ r h => by simp [terrierref13_Decode.j1] at h⟩
 | k + 1 => by
  obtain ⟨ih0, ih1, ih2, ih3⟩ := terrierref13_Decode.mono_l k
  refine ⟨?_, ?_, ?_, ?_⟩
  ·
   intro y0
   unfold terrierref13_Decode.j0
   repeat' first
   | (with_reducible exact ih0 _)
   | (with_reducible exact ih1 _ _ _ _ _ _ _ _ _)
   | (with_reducible exact ih2 _ _ _ _ _ _ _)
   | (with_reducible exact ih3 _ _ _ _ _ _)
   | (with_reducible exact terrierref01_Reader_Num.mono _ _ _ _ _)
   | (with_reducible exact terrierref01_Reader_Text.mono _ _ _ _ _)
   | (with_reducible exact terrierref13_Encode.mono _ _ _ _ _ _ _)
   | (with_reducible exact terrierref13_Tomb.mono _ _)
   | (with_reducible exact LeO.refl _)
   | (with_reducible exact LeO.none _)
   | (with_reducible refine LeO.ite ?_ ?_)
   | (with_reducible refine LeO.bind ?_ (fun _ => ?_))
   | exact ih0 _
   | exact ih1 _ _ _ _ _ _ _ _ _
   | exact ih2 _ _ _ _ _ _ _
   | exact ih3 _ _ _ _ _ _
   | exact terrierref01_Reader_Num.mono _ _ _ _ _
   | exact terrierref01_Reader_Text.mono _ _ _ _ _
   | exact terrierref13_Encode.mono _ _ _ _ _ _ _
   | exact terrierref13_Tomb.mono _ _
   | exact LeO.none _
   | refine LeO.ite ?_ ?_
   | refine LeO.bind ?_ (fun _ => ?_)
  ·
   intro y0 y1 y2 y3 y4 y5 y6 y7 y8
   unfold terrierref13_Decode.j2
   repeat' first
   | (with_reducible exact ih0 _)
   | (with_reducible exact ih1 _ _ _ _ _ _ _ _ _)
   | (with_reducible exact ih2 _ _ _ _ _ _ _)
   | (with_reducible exact ih3 _ _ _ _ _ _)
   | (with_reducible exact terrierref01_Reader_Num.mono _ _ _ _ _)
   | (with_reducible exact terrierref01_Reader_Text.mono _ _ _ _ _)
   | (with_reducible exact terrierref13_Encode.mono _ _ _ _ _ _ _)
   | (with_reducible exact terrierref13_Tomb.mono _ _)
   | (with_reducible exact LeO.refl _)
   | (with_reducible exact LeO.none _)
   | (with_reducible refine LeO.ite ?_ ?_)
   | (with_reducible refine LeO.bind ?_ (fun _ => ?_))
   | exact ih0 _
   | exact ih1 _ _ _ _ _ _ _ _ _
   | exact ih2 _ _ _ _ _ _ _
   | exact ih3 _ _ _ _ _ _
   | exact terrierref01_Reader_Num.mono _ _ _ _ _
   | exact terrierref01_Reader_Text.mono _ _ _ _ _
   | exact terrierref13_Encode.mono _ _ _ _ _ _ _
   | exact terrierref13_Tomb.mono _ _
   | exact LeO.none _
   | refine LeO.ite ?_ ?_
   | refine LeO.bind ?_ (fun _ => ?_)
  ·
   intro y0 y1 y2 y3 y4 y5 y6
   unfold terrierref13_Decode.j3
   repeat' first
   | (with_reducible exact ih0 _)
   | (with_reducible exact ih1 _ _ _ _ _ _ _ _ _)
   | (with_reducible exact ih2 _ _ _ _ _ _ _)
   | (with_reducible exact ih3 _ _ _ _ _ _)
   | (with_reducible exact terrierref01_Reader_Num.mono _ _ _ _ _)
   | (with_reducible exact terrierref01_Reader_Text.mono _ _ _ _ _)
   | (with_reducible exact terrierref13_Encode.mono _ _ _ _ _ _ _)
   | (with_reducible exact terrierref13_Tomb.mono _ _)
   | (with_reducible exact LeO.refl _)
   | (with_reducible exact LeO.none _)
   | (with_reducible refine LeO.ite ?_ ?_)
   | (with_reducible refine LeO.bind ?_ (fun _ => ?_))
   | exact ih0 _
   | exact ih1 _ _ _ _ _ _ _ _ _
   | exact ih2 _ _ _ _ _ _ _
   | exact ih3 _ _ _ _ _ _
   | exact terrierref01_Reader_Num.mono _ _ _ _ _
   | exact terrierref01_Reader_Text.mono _ _ _ _ _
   | exact terrierref13_Encode.mono _ _ _ _ _ _ _
   | exact terrierref13_Tomb.mono _ _
   | exact LeO.none _
   | refine LeO.ite ?_ ?_
   | refine LeO.bind ?_ (fun _ => ?_)
  ·
   intro y0 y1 y2 y3 y4 y5
   unfold terrierref13_Decode.j1
   repeat' first
   | (with_reducible exact ih0 _)
   | (with_reducible exact ih1 _ _ _ _ _ _ _ _ _)
   | (with_reducible exact ih2 _ _ _ _ _ _ _)
   | (with_reducible exact ih3 _ _ _ _ _ _)
   | (with_reducible exact terrierref01_Reader_Num.mono _ _ _ _ _)
   | (with_reducible exact terrierref01_Reader_Text.mono _ _ _ _ _)
   | (with_reducible exact terrierref13_Encode.mono _ _ _ _ _ _ _)
   | (with_reducible exact terrierref13_Tomb.mono _ _)
   | (with_reducible exact LeO.refl _)
   | (with_reducible exact LeO.none _)
   | (with_reducible refine LeO.ite ?_ ?_)
   | (with_reducible refine LeO.bind ?_ (fun _ => ?_))
   | exact ih0 _
   | exact ih1 _ _ _ _ _ _ _ _ _
   | exact ih2 _ _ _ _ _ _ _
   | exact ih3 _ _ _ _ _ _
   | exact terrierref01_Reader_Num.mono _ _ _ _ _
   | exact terrierref01_Reader_Text.mono _ _ _ _ _
   | exact terrierref13_Encode.mono _ _ _ _ _ _ _
   | exact terrierref13_Tomb.mono _ _
   | exact LeO.none _
   | refine LeO.ite ?_ ?_
   | refine LeO.bind ?_ (fun _ => ?_)
theorem terrierref13_Decode.mono : ∀ a0 k, LeO (terrierref13_Decode.f k a0) (terrierref13_Decode.f (k + 1) a0) := by
 intro a0 k
 obtain ⟨ih0, ih1, ih2, ih3⟩ := terrierref13_Decode.mono_l k
 unfold terrierref13_Decode.f
 repeat' first
   | (with_reducible exact ih0 _)
   | (with_reducible exact ih1 _ _ _ _ _ _ _ _ _)
   | (with_reducible exact ih2 _ _ _ _ _ _ _)
   | (with_reducible exact ih3 _ _ _ _ _ _)
   | (with_reducible exact terrierref01_Reader_Num.mono _ _ _ _ _)
   | (with_reducible exact terrierref01_Reader_Text.mono _ _ _ _ _)
   | (with_reducible exact terrierref13_Encode.mono _ _ _ _ _ _ _)
   | (with_reducible exact terrierref13_Tomb.mono _ _)
   | (with_reducible exact LeO.refl _)
   | (with_reducible exact LeO.none _)
   | (with_reducible refine LeO.ite ?_ ?_)
   | (with_reducible refine LeO.bind ?_ (fun _ => ?_))
   | exact ih0 _
   | exact ih1 _ _ _ _ _ _ _ _ _
   | exact ih2 _ _ _ _ _ _ _
   | exact ih3 _ _ _ _ _ _
   | exact terrierref01_Reader_Num.mono _ _ _ _ _
   | exact terrierref01_Reader_Text.mono _ _ _ _ _
   | exact terrierref13_Encode.mono _ _ _ _ _ _ _
   | exact terrierref13_Tomb.mono _ _
   | exact LeO.none _
   | refine LeO.ite ?_ ?_
   | refine LeO.bind ?_ (fun _ => ?_)
set_option maxHeartbeats 8000000 in
set_option maxRecDepth 100000 in
theorem terrierref13_Decode.calls (k : Nat) (A0 : Option Addr) (c0 : Nat) (l0 : List Int) (r1 : List Int) (r2 : List Int) (r3 : Int) (r4 : Int) (r5 : Int) (r6 : Int) (r7 : Bool) (r8 : Bool) (w : World) (hr0 : Kd.C (Kd.int .u8) w A0 l0.length l0) (hc0 : l0.length ≤ c0) (h : terrierref13_Decode.f k l0 = some (r1, r2, r3, r4, r5, r6, r7, r8)) :
  Calls Try.prog 22 #[.slice A0 l0.length c0] w fun e w' => ∃ v0_ v1_ : Value, e = .returned (.tuple #[.agg #[v0_, v1_, .int .i64 r3, .int .i64 r4, .int .i64 r5, .int .i64 r6], .bool r7, .bool r8]) ∧ Kd.R (Kd.int .u8) 5 w' w.heap.size (fun k_ => some k_ ≠ (v1_ : Value).ownBlock) v0_ r1 ∧ Kd.R (Kd.int .u8) 5 w' w.heap.size (fun k_ => some k_ ≠ (v0_ : Value).ownBlock) v1_ r2 ∧ Below w.heap.size w w' := by
 have hu24 := Try.underlying24
 have hu53 := Try.underlying53
 have HR0 := Aside0.mk hr0
 have HC0 := Aside0.mk hc0
 clear hr0 hc0
 have HB := Ext.a (Below.refl w.heap.size w)
 have H : (if (l0.length : Int) = 0 then (some (([] : List Int), ([] : List Int), 0, 0, 0, 0, false, false)) else (terrierref13_Decode.j0 k l0)) = some (r1, r2, r3, r4, r5, r6, r7, r8) := h
 clear h
 have HC2 := Aside0.mk H
 clear H
 go_enter Try.func22, Try.ntmps22
 go_upto_if 9 with (first | ((with_reducible refine gate_dst (N := 2) rfl ?_); (try (refine gate_guard (by rfl) ?_; dsimp only)); refine box_event ?hg (N := 2) ?hd (cs := #[.slice none 0 0, .slice none 0 0, .int .i64 0, .int .i64 0, .int .i64 0, .int .i64 0]) (t := 24) ?hr ?_; (case hd => rfl); (case hg => rfl); (case hr => first | (go_simp; done) | (go_simp; rfl)); intro gb305 hg w3 hbox hb; have n0_ := Ext.a (below_step (Ext.nB HB.out) hb); have n1_ := Ext.a (hbox); have n2_ := Ext.a ((by rw [hg]; exact (below_size (Ext.nB HB.out)) : w.heap.size ≤ gb305)); have n3_ := Ext.a ((by rw [hg]; exact (below_size (Ext.nB HB.out)) : w.heap.size ≤ gb305)); clear HB; have HB := n0_; have BK305 := n1_; have GW305 := n2_; have GE305 := n3_; clear n0_ n1_ n2_ n3_; clear hb hbox hg))
 (try simp only [Act.put, Ext.sb, Ext.sz, Ext.ss])
 go_cut [] (fun wc => ∃ (kq : Nat) (x306002_1 : Int) (x306003_1 : Int) (x306004_1 : Int) (x306005_1 : Int), Aside0 (terrierref13_Decode.j0 kq l0 = some (r1, r2, r3, r4, r5, r6, r7, r8)) ∧ Aside0 (kq ≤ k) ∧ Aside0 (wc.heap[gb305]? = some (.cells #[(.slice none 0 0), (.slice none 0 0), .int .i64 x306002_1, .int .i64 x306003_1, .int .i64 x306004_1, .int .i64 x306005_1] 24 (0, 0))) ∧ Aside0 (Below w.heap.size w wc))
 case first =>
  have H := HC2.out
  clear HC2
  by_cases c4 : (l0.length : Int) = 0
  ·
   rw [if_pos c4] at H
   have c4b0 : ((l0.length : Int) == 0) = true := beq_iff_eq.mpr c4
   have c4b1 : ((l0.length : Int) != 0) = false := bne_eq_false_iff_eq.mpr c4
   clear c4
   (first | rw [c4b0] | (simp only [i64_w, i32_w]; rw [c4b0]) | skip)
   simp only [Option.some.injEq, Prod.mk.injEq] at H
   obtain ⟨rfl, rfl, rfl, rfl, rfl, rfl, rfl, rfl⟩ := H
   have hcz5_0 : w3.cell? ⟨gb305, 0, none⟩ = some (.slice none 0 0) := (blk_cell BK305.out 0).trans rfl
   have hcz5_1 : w3.cell? ⟨gb305, 1, none⟩ = some (.slice none 0 0) := (blk_cell BK305.out 1).trans rfl
   have hcz5_2 : w3.cell? ⟨gb305, 2, none⟩ = some (.int .i64 0) := (blk_cell BK305.out 2).trans rfl
   have hcz5_3 : w3.cell? ⟨gb305, 3, none⟩ = some (.int .i64 0) := (blk_cell BK305.out 3).trans rfl
   have hcz5_4 : w3.cell? ⟨gb305, 4, none⟩ = some (.int .i64 0) := (blk_cell BK305.out 4).trans rfl
   have hcz5_5 : w3.cell? ⟨gb305, 5, none⟩ = some (.int .i64 0) := (blk_cell BK305.out 5).trans rfl
   have hfz5_0 := blk_frozen BK305.out 0
   have hfz5_1 := blk_frozen BK305.out 1
   have hfz5_2 := blk_frozen BK305.out 2
   have hfz5_3 := blk_frozen BK305.out 3
   have hfz5_4 := blk_frozen BK305.out 4
   have hfz5_5 := blk_frozen BK305.out 5
   go_wp2
   refine bodyPost_ret (results_ctt rfl _ _ gb305 24 #[.slice none 0 0, .slice none 0 0, .int .i64 0, .int .i64 0, .int .i64 0, .int .i64 0] (0, 0) _ rfl (by refine blk_put (cs := #[.slice none 0 0, .slice none 0 0, .int .i64 0, .int .i64 0, .int .i64 0, .int .i64 0]) ?_ 5 _ rfl; refine blk_put (cs := #[.slice none 0 0, .slice none 0 0, .int .i64 0, .int .i64 0, .int .i64 0, .int .i64 0]) ?_ 4 _ rfl; refine blk_put (cs := #[.slice none 0 0, .slice none 0 0, .int .i64 0, .int .i64 0, .int .i64 0, .int .i64 0]) ?_ 3 _ rfl; refine blk_put (cs := #[.slice none 0 0, .slice none 0 0, .int .i64 0, .int .i64 0, .int .i64 0, .int .i64 0]) ?_ 2 _ rfl; refine blk_put (cs := #[.slice none 0 0, .slice none 0 0, .int .i64 0, .int .i64 0, .int .i64 0, .int .i64 0]) ?_ 1 _ rfl; refine blk_put (cs := #[.slice none 0 0, .slice none 0 0, .int .i64 0, .int .i64 0, .int .i64 0, .int .i64 0]) ?_ 0 _ rfl; exact BK305.out) Try.underlying24 rfl (by kernel_rfl)) rfl ?_
   exact ⟨_, _, by first | rfl | (simp [errW_none, errW_some] <;> rfl) | (simp [*, errW_none, errW_some] <;> rfl), by first | exact Kd.R_nil _ _ _ _ _ | exact Kd.N_nil _ _ _ _ _ | exact Kd.V_nil _ _ _ _ _ | exact Kd.Q_nil _ _ _ _ _ | exact Kd.S_nil _ _ _ _ _, by first | exact Kd.R_nil _ _ _ _ _ | exact Kd.N_nil _ _ _ _ _ | exact Kd.V_nil _ _ _ _ _ | exact Kd.Q_nil _ _ _ _ _ | exact Kd.S_nil _ _ _ _ _, by repeat (first | (with_reducible first | exact HB.out | apply Ext.ba | apply Ext.bn | apply Ext.bd | refine Ext.bs ?_ GE305.out) | exact HB.out | exact .refl _ _)⟩
  ·
   rw [if_neg c4] at H
   have c4b0 : ((l0.length : Int) == 0) = false := beq_eq_false_iff_ne.mpr c4
   have c4b1 : ((l0.length : Int) != 0) = true := bne_iff_ne.mpr c4
   have c4b2 : ¬ (l0 = []) := fun h_ => c4 (by rw [h_]; rfl)
   (first | rw [c4b0] | (simp only [i64_w, i32_w]; rw [c4b0]) | skip)
   have H' := Aside0.mk H
   clear H
   go_wp2
   go_meet
   case rel => exact ⟨_, (0), (0), (0), (0), H', ⟨by first | omega | exact Nat.le_refl _⟩, ⟨by exact BK305.out⟩, ⟨by repeat (first | (with_reducible first | exact HB.out | apply Ext.ba | apply Ext.bn | apply Ext.bd | refine Ext.bs ?_ GE305.out) | exact HB.out | exact .refl _ _)⟩⟩
 case rest =>
  clear HC2
  try clear c2
  try clear p2
  try clear c4
  try clear c4b0
  try clear c4b1
  try clear c4b2
  try clear hcz5_0
  try clear hcz5_1
  try clear hcz5_2
  try clear hcz5_3
  try clear hcz5_4
  try clear hcz5_5
  try clear hfz5_0
  try clear hfz5_1
  try clear hfz5_2
  try clear hfz5_3
  try clear hfz5_4
  try clear hfz5_5
  obtain ⟨kq, x306002_1, x306003_1, x306004_1, x306005_1, HA, HJ1, BK305, HB⟩ := hcut
  cases kq with
  | zero => exact absurd HA.out (by simp [terrierref13_Decode.j0])
  | succ kj1 =>
   have H := HA.out
   clear HA
   simp only [terrierref13_Decode.j0] at H
   replace H := Option.bind_eq_some_iff.mp H
   obtain ⟨⟨t308, t311, t312⟩, A60, H⟩ := H
   replace H : (if 0 < (l0.length : Int) then (if (rd l0 0) = 2 then (if t312 = 0 then (if (t308.length : Int) > 0 then ((terrierref13_Tomb.f kj1 t308).bind fun t314 => ((terrierref01_Same.f t314 l0).bind fun t317 => (terrierref13_Decode.j1 kj1 t317 t308 0 0 0 0))) else (terrierref13_Decode.j1 kj1 false t308 0 0 0 0)) else (terrierref13_Decode.j1 kj1 false t308 0 0 0 0)) else (terrierref13_Decode.j2 kj1 l0 l0 t311 t312 t308 0 0 0 0)) else (none)) = some (r1, r2, r3, r4, r5, r6, r7, r8) := H
   have A6 := Aside0.mk A60
   clear A60
   by_cases c7 : 0 < (l0.length : Int)
   ·
    rw [if_pos c7] at H
    have c7b0 : decide (0 < (l0.length : Int)) = true := decide_eq_true c7
    have c7b1 : decide (0 < l0.length) = true := decide_eq_true (by omega)
    clear c7
    have HC8 := Aside0.mk H
    clear H
    go_upto_if 21 with (first | ((with_reducible refine gate_dst (N := 13) rfl ?_); (try (refine gate_guard (by rfl) ?_; dsimp only)); refine box_event ?hg (N := 13) ?hd (cs := #[.slice A0 l0.length c0, .int .i64 1, .int .i64 0]) (t := 53) ?hr ?_; (case hd => rfl); (case hg => rfl); (case hr => first | (go_simp; done) | (go_simp; rfl)); intro gb306 hg w9 hbox hb; have n0_ := Ext.a (blk_below BK305.out hb); have n1_ := Ext.a (below_step (by repeat (first | (with_reducible first | exact HB.out | apply Ext.ba | apply Ext.bn | apply Ext.bd | refine Ext.bs ?_ GE305.out) | exact HB.out | exact .refl _ _)) hb); have n2_ := Ext.a (hbox); have n3_ := Ext.a ((by rw [hg]; exact (below_size (by repeat (first | (with_reducible first | exact HB.out | apply Ext.ba | apply Ext.bn | apply Ext.bd | refine Ext.bs ?_ GE305.out) | exact HB.out | exact .refl _ _))) : w.heap.size ≤ gb306)); have n4_ := Ext.a ((by rw [hg]; exact (below_size (by repeat (first | (with_reducible first | exact HB.out | apply Ext.ba | apply Ext.bn | apply Ext.bd | refine Ext.bs ?_ GE305.out) | exact HB.out | exact .refl _ _))) : w.heap.size ≤ gb306)); have n5_ := Ext.a ((by rw [hg]; exact Nat.ne_of_lt (blk_lt BK305.out) : gb305 ≠ gb306)); have n6_ := Ext.a ((by rw [hg]; exact Nat.ne_of_gt (blk_lt BK305.out) : gb306 ≠ gb305)); clear BK305 HB; have BK305 := n0_; have HB := n1_; have BK306 := n2_; have GW306 := n3_; have GE306 := n4_; have NB305_306 := n5_; have NB306_305 := n6_; clear n0_ n1_ n2_ n3_ n4_ n5_ n6_; clear hb hbox hg) | ((with_reducible refine gate_dst (N := 6) rfl ?_); (try (refine gate_guard (by rfl) ?_; dsimp only)); refine box_event ?hg (N := 6) ?hd (cs := #[.slice none 0 0, .slice none 0 0, .int .i64 0, .int .i64 0, .int .i64 0, .int .i64 0]) (t := 24) ?hr ?_; (case hd => rfl); (case hg => rfl); (case hr => first | (go_simp; done) | (go_simp; rfl)); intro gb307 hg w10 hbox hb; have n0_ := Ext.a (blk_below BK305.out hb); have n1_ := Ext.a (blk_below BK306.out hb); have n2_ := Ext.a (below_step (by repeat (first | (with_reducible first | exact HB.out | apply Ext.ba | apply Ext.bn | apply Ext.bd | refine Ext.bs ?_ GE305.out | refine Ext.bs ?_ GE306.out) | exact HB.out | exact .refl _ _)) hb); have n3_ := Ext.a (hbox); have n4_ := Ext.a ((by rw [hg]; exact (below_size (by repeat (first | (with_reducible first | exact HB.out | apply Ext.ba | apply Ext.bn | apply Ext.bd | refine Ext.bs ?_ GE305.out | refine Ext.bs ?_ GE306.out) | exact HB.out | exact .refl _ _))) : w.heap.size ≤ gb307)); have n5_ := Ext.a ((by rw [hg]; exact (below_size (by repeat (first | (with_reducible first | exact HB.out | apply Ext.ba | apply Ext.bn | apply Ext.bd | refine Ext.bs ?_ GE305.out | refine Ext.bs ?_ GE306.out) | exact HB.out | exact .refl _ _))) : w.heap.size ≤ gb307)); have n6_ := Ext.a ((by rw [hg]; exact Nat.ne_of_lt (blk_lt BK305.out) : gb305 ≠ gb307)); have n7_ := Ext.a ((by rw [hg]; exact Nat.ne_of_gt (blk_lt BK305.out) : gb307 ≠ gb305)); have n8_ := Ext.a ((by rw [hg]; exact Nat.ne_of_lt (blk_lt BK306.out) : gb306 ≠ gb307)); have n9_ := Ext.a ((by rw [hg]; exact Nat.ne_of_gt (blk_lt BK306.out) : gb307 ≠ gb306)); clear BK305 BK306 HB; have BK305 := n0_; have BK306 := n1_; have HB := n2_; have BK307 := n3_; have GW307 := n4_; have GE307 := n5_; have NB305_307 := n6_; have NB307_305 := n7_; have NB306_307 := n8_; have NB307_306 := n9_; clear n0_ n1_ n2_ n3_ n4_ n5_ n6_ n7_ n8_ n9_; clear hb hbox hg; have hnb11 := NB307_305.out; have hnc11 := NB305_307.out; have hnb12 := NB307_306.out; have hnc12 := NB306_307.out; have hcz13_0 : w10.cell? ⟨gb307, 0, none⟩ = some (.slice none 0 0) := (blk_cell BK307.out 0).trans rfl; have hcz13_1 : w10.cell? ⟨gb307, 1, none⟩ = some (.slice none 0 0) := (blk_cell BK307.out 1).trans rfl; have hcz13_2 : w10.cell? ⟨gb307, 2, none⟩ = some (.int .i64 0) := (blk_cell BK307.out 2).trans rfl; have hcz13_3 : w10.cell? ⟨gb307, 3, none⟩ = some (.int .i64 0) := (blk_cell BK307.out 3).trans rfl; have hcz13_4 : w10.cell? ⟨gb307, 4, none⟩ = some (.int .i64 0) := (blk_cell BK307.out 4).trans rfl; have hcz13_5 : w10.cell? ⟨gb307, 5, none⟩ = some (.int .i64 0) := (blk_cell BK307.out 5).trans rfl; have hfz13_0 := blk_frozen BK307.out 0; have hfz13_1 := blk_frozen BK307.out 1; have hfz13_2 := blk_frozen BK307.out 2; have hfz13_3 := blk_frozen BK307.out 3; have hfz13_4 := blk_frozen BK307.out 4; have hfz13_5 := blk_frozen BK307.out 5; have HI306 := Ext.a (show IsS53 w ((((((w10.setCell ⟨gb307, 0, none⟩ (.slice none 0 0)).setCell ⟨gb307, 1, none⟩ (.slice none 0 0)).setCell ⟨gb307, 2, none⟩ (.int .i64 0)).setCell ⟨gb307, 3, none⟩ (.int .i64 0)).setCell ⟨gb307, 4, none⟩ (.int .i64 0)).setCell ⟨gb307, 5, none⟩ (.int .i64 0)) gb306 l0 1 0 from ⟨_, _, (by refine blk_far ?_ NB306_307.out _; refine blk_far ?_ NB306_307.out _; refine blk_far ?_ NB306_307.out _; refine blk_far ?_ NB306_307.out _; refine blk_far ?_ NB306_307.out _; refine blk_far ?_ NB306_307.out _; exact BK306.out), GE306.out, ⟨HR0.out, HC0.out⟩⟩); clear BK306) | ((with_reducible refine gate_callee (f := 34) rfl ?_); refine goesL_ (some 16) rfl rfl Try.func34 (by kernel_rfl) rfl #[.pointer (some ⟨gb306, 0, none⟩), .int .i64 64] rfl (by (try simp only [List.map_toArray, List.map_cons, List.map_nil]); first | done | rfl | (simp only [List.length_drop, List.length_take]; rfl)) ?_; (with_reducible refine (terrierref01_Reader_Text.calls kj1 gb306 l0 1 0 64 t308 t311 t312 w _ ?side1 ?side2 A6.out).mono ?_); (case side1 => repeat (first | (with_reducible first | exact HI306.out | apply IsS53.alloc | apply IsS53.drewN | apply IsS53.drew | apply IsS53.set_1 | apply IsS53.set_2 | refine IsS53.far ?_ NB306_305.out _ | refine IsS53.far ?_ NB306_307.out _) | exact HI306.out)); (case side2 => repeat (first | (with_reducible first | exact HB.out | apply below_alloc | apply pw_below_drewN | apply below_drew1 | refine below_set ?_ GE305.out | refine below_set ?_ GE307.out | refine below_set ?_ (IsS53.ge HI306.out)) | exact HB.out | exact Below.refl _ _)); rintro e w14 ⟨v309, rfl, ho0, hi, hb, hk⟩; refine ⟨_, rfl, ?_⟩; have n0_ := Ext.a (KeepBut.blk hk (g' := gb305) (o := .cells #[.slice none 0 0, .slice none 0 0, .int .i64 x306002_1, .int .i64 x306003_1, .int .i64 x306004_1, .int .i64 x306005_1] 24 (0, 0)) (by refine blk_far ?_ NB305_307.out _; refine blk_far ?_ NB305_307.out _; refine blk_far ?_ NB305_307.out _; refine blk_far ?_ NB305_307.out _; refine blk_far ?_ NB305_307.out _; refine blk_far ?_ NB305_307.out _; exact BK305.out) NB305_306.out (by simp)); have n1_ := Ext.a (KeepBut.blk hk (g' := gb307) (o := .cells #[.slice none 0 0, .slice none 0 0, .int .i64 0, .int .i64 0, .int .i64 0, .int .i64 0] 24 (0, 0)) (by refine blk_put (cs := #[.slice none 0 0, .slice none 0 0, .int .i64 0, .int .i64 0, .int .i64 0, .int .i64 0]) ?_ 5 _ rfl; refine blk_put (cs := #[.slice none 0 0, .slice none 0 0, .int .i64 0, .int .i64 0, .int .i64 0, .int .i64 0]) ?_ 4 _ rfl; refine blk_put (cs := #[.slice none 0 0, .slice none 0 0, .int .i64 0, .int .i64 0, .int .i64 0, .int .i64 0]) ?_ 3 _ rfl; refine blk_put (cs := #[.slice none 0 0, .slice none 0 0, .int .i64 0, .int .i64 0, .int .i64 0, .int .i64 0]) ?_ 2 _ rfl; refine blk_put (cs := #[.slice none 0 0, .slice none 0 0, .int .i64 0, .int .i64 0, .int .i64 0, .int .i64 0]) ?_ 1 _ rfl; refine blk_put (cs := #[.slice none 0 0, .slice none 0 0, .int .i64 0, .int .i64 0, .int .i64 0, .int .i64 0]) ?_ 0 _ rfl; exact BK307.out) NB307_306.out (by simp)); have n2_ := Ext.a (Kd.R_lower ho0 (below_size (by repeat (first | (with_reducible first | exact HB.out | apply below_alloc | apply pw_below_drewN | apply below_drew1 | refine below_set ?_ GE305.out | refine below_set ?_ GE307.out | refine below_set ?_ (IsS53.ge HI306.out)) | exact HB.out | exact Below.refl _ _)))); have n3_ := Ext.a (hb); have n4_ := Ext.a (hi); clear BK305 BK307 HB HI306; have BK305 := n0_; have BK307 := n1_; have HO310 := n2_; have HB := n3_; have HI306 := n4_; clear n0_ n1_ n2_ n3_ n4_; (try clear hb); (try clear hb2); (try clear hk); (try clear hi); (try clear ho0); obtain ⟨Ao15, co15, eo15⟩ := Kd.R_slice HO310.out; subst eo15; have hcz16_0 : w14.cell? ⟨gb307, 0, none⟩ = some (.slice none 0 0) := (blk_cell BK307.out 0).trans rfl; have hcz16_1 : w14.cell? ⟨gb307, 1, none⟩ = some (.slice none 0 0) := (blk_cell BK307.out 1).trans rfl; have hcz16_2 : w14.cell? ⟨gb307, 2, none⟩ = some (.int .i64 0) := (blk_cell BK307.out 2).trans rfl; have hcz16_3 : w14.cell? ⟨gb307, 3, none⟩ = some (.int .i64 0) := (blk_cell BK307.out 3).trans rfl; have hcz16_4 : w14.cell? ⟨gb307, 4, none⟩ = some (.int .i64 0) := (blk_cell BK307.out 4).trans rfl; have hcz16_5 : w14.cell? ⟨gb307, 5, none⟩ = some (.int .i64 0) := (blk_cell BK307.out 5).trans rfl; have hfz16_0 := blk_frozen BK307.out 0; have hfz16_1 := blk_frozen BK307.out 1; have hfz16_2 := blk_frozen BK307.out 2; have hfz16_3 := blk_frozen BK307.out 3; have hfz16_4 := blk_frozen BK307.out 4; have hfz16_5 := blk_frozen BK307.out 5; have p313 : 0 ≤ (0 : Int) := (by omega); have q313 : 0 < (l0.length : Int) := of_decide_eq_true (by first | (with_reducible assumption) | assumption); obtain ⟨ad313, e313, hx313_0⟩ := Kd.at_int HR0.out 0 p313 q313; cases e313; have qi313 : (0 < l0.length) = True := eq_true (by omega); (try rw [show ((0 : Int)).toNat = 0 from rfl] at hx313_0); (try rw [Addr.add_zero'] at hx313_0); have hn313_0 : ad313.block ≠ gb307 := Nat.ne_of_lt (Nat.lt_of_lt_of_le (by have := World.block_lt_of_cell? _ _ hx313_0; first | rwa [add_block] at this | exact this) GW307.out); replace hx313_0 := (HB.out.cell (World.block_lt_of_cell? w _ hx313_0)).trans hx313_0; replace hx313_0 := (cell_far (p := ⟨gb307, 0, none⟩) (by first | (rw [add_block]; exact hn313_0) | (show (Addr.add _ _).block ≠ _; rw [add_block]; exact hn313_0) | exact hn313_0) (.slice Ao15 t308.length co15)).trans hx313_0; clear hn313_0; replace p313 := eq_true p313; replace q313 := eq_true q313))
    (try simp only [Act.put, Ext.sb, Ext.sz, Ext.ss])
    go_cut [] (fun wc => ∃ (kq : Nat) (x306002_7 : Int) (x306003_7 : Int) (x306004_7 : Int) (x306005_7 : Int), Aside0 (terrierref13_Decode.j2 kq l0 l0 t311 t312 t308 0 0 0 0 = some (r1, r2, r3, r4, r5, r6, r7, r8)) ∧ Aside0 (kq ≤ kj1) ∧ Aside0 (Kd.R (Kd.int .u8) 5 wc w.heap.size (fun _ => True) (.slice Ao15 t308.length co15) t308) ∧ Aside0 (wc.heap[gb305]? = some (.cells #[(.slice none 0 0), (.slice none 0 0), .int .i64 x306002_7, .int .i64 x306003_7, .int .i64 x306004_7, .int .i64 x306005_7] 24 (0, 0))) ∧ Aside0 (wc.heap[gb307]? = some (.cells #[(.slice Ao15 t308.length co15), (.slice none 0 0), .int .i64 0, .int .i64 0, .int .i64 0, .int .i64 0] 24 (0, 0))) ∧ Aside0 (IsS53 w wc gb306 l0 t311 t312) ∧ Aside0 (Below w.heap.size w wc))
    case first =>
     have H := HC8.out
     clear HC8
     by_cases c17 : (rd l0 0) = 2
     ·
      rw [if_pos c17] at H
      have c17b0 : ((rd l0 0) == 2) = true := beq_iff_eq.mpr c17
      have c17b1 : ((rd l0 0) != 2) = false := bne_eq_false_iff_eq.mpr c17
      clear c17
      (first | rw [c17b0] | (simp only [i64_w, i32_w]; rw [c17b0]) | skip)
      have HC18 := Aside0.mk H
      clear H
      go_upto_region 7 with (fail)
      go_cut [39] (fun v39 wc => ∃ (kq : Nat) (x39_17 : Bool), v39 = .bool x39_17 ∧ Aside0 (terrierref13_Decode.j1 kq x39_17 t308 0 0 0 0 = some (r1, r2, r3, r4, r5, r6, r7, r8)) ∧ Aside0 (kq ≤ kj1) ∧ Aside0 (Kd.R (Kd.int .u8) 5 wc w.heap.size (fun _ => True) (.slice Ao15 t308.length co15) t308) ∧ Aside0 (wc.heap[gb305]? = some (.cells #[(.slice none 0 0), (.slice none 0 0), .int .i64 x306002_1, .int .i64 x306003_1, .int .i64 x306004_1, .int .i64 x306005_1] 24 (0, 0))) ∧ Aside0 (wc.heap[gb307]? = some (.cells #[(.slice Ao15 t308.length co15), (.slice none 0 0), .int .i64 0, .int .i64 0, .int .i64 0, .int .i64 0] 24 (0, 0))) ∧ Aside0 (Below w.heap.size w wc))
      case first =>
       have H := HC18.out
       clear HC18
       by_cases c19 : t312 = 0
       ·
        rw [if_pos c19] at H
        have c19b0 : (t312 == 0) = true := beq_iff_eq.mpr c19
        have c19b1 : (t312 != 0) = false := bne_eq_false_iff_eq.mpr c19
        clear c19
        (first | rw [c19b0] | (simp only [i64_w, i32_w]; rw [c19b0]) | skip)
        by_cases c20 : (t308.length : Int) > 0
        ·
         rw [if_pos c20] at H
         have c20b0 : decide (0 < (t308.length : Int)) = true := decide_eq_true c20
         have c20b1 : decide (0 < t308.length) = true := decide_eq_true (by omega)
         clear c20
         replace H := Option.bind_eq_some_iff.mp H
         obtain ⟨t314, A210, H⟩ := H
         replace H : ((terrierref01_Same.f t314 l0).bind fun t317 => (terrierref13_Decode.j1 kj1 t317 t308 0 0 0 0)) = some (r1, r2, r3, r4, r5, r6, r7, r8) := H
         have A21 := Aside0.mk A210
         clear A210
         replace H := Option.bind_eq_some_iff.mp H
         obtain ⟨t317, A220, H⟩ := H
         replace H : (terrierref13_Decode.j1 kj1 t317 t308 0 0 0 0) = some (r1, r2, r3, r4, r5, r6, r7, r8) := H
         have A22 := Aside0.mk A220
         clear A220
         have H' := Aside0.mk H
         clear H
         obtain ⟨ASz23_0, cSz23_0, HGz23, hgz23, HSz23_0⟩ := HI306.out
         have hcz23_0 := cellS53_0 HGz23
         have hcz23_1 := cellS53_1 HGz23
         have hcz23_2 := cellS53_2 HGz23
         have hfz23_1 := blk_frozen HGz23 1
         have hfz23_2 := blk_frozen HGz23 2
         clear HGz23 hgz23
         have hnb24 := NB307_305.out
         have hnc24 := NB305_307.out
         have hnb25 := NB307_306.out
         have hnc25 := NB306_307.out
         have hcz26_0 : w14.cell? ⟨gb307, 0, none⟩ = some (.slice none 0 0) := (blk_cell BK307.out 0).trans rfl
         have hcz26_1 : w14.cell? ⟨gb307, 1, none⟩ = some (.slice none 0 0) := (blk_cell BK307.out 1).trans rfl
         have hcz26_2 : w14.cell? ⟨gb307, 2, none⟩ = some (.int .i64 0) := (blk_cell BK307.out 2).trans rfl
         have hcz26_3 : w14.cell? ⟨gb307, 3, none⟩ = some (.int .i64 0) := (blk_cell BK307.out 3).trans rfl
         have hcz26_4 : w14.cell? ⟨gb307, 4, none⟩ = some (.int .i64 0) := (blk_cell BK307.out 4).trans rfl
         have hcz26_5 : w14.cell? ⟨gb307, 5, none⟩ = some (.int .i64 0) := (blk_cell BK307.out 5).trans rfl
         have hfz26_0 := blk_frozen BK307.out 0
         have hfz26_1 := blk_frozen BK307.out 1
         have hfz26_2 := blk_frozen BK307.out 2
         have hfz26_3 := blk_frozen BK307.out 3
         have hfz26_4 := blk_frozen BK307.out 4
         have hfz26_5 := blk_frozen BK307.out 5
         go_wp2_with (first | (go_at_call 17; (with_reducible refine (terrierref13_Tomb.calls kj1 _ _ t308 t314 _ ?side1 ?side2 A21.out).mono ?_); (case side1 => refine (Kd.R_reads' (e := 5) (base := w.heap.size) (ok := fun k_ => True) (n := t308.length) (c := co15) ?_).2.2; exact (Ext.nR ((Kd.R_mono (Kd.R_far (p := ⟨gb307, 0, none⟩) (Kd.R_types HO310.out BK307.out (by decide)) (fun _ hk => hk.2) (.slice Ao15 t308.length co15)) (fun _ h_ => h_.1))))); (case side2 => exact (Kd.R_reads' HO310.out).2.1); rintro e w27 ⟨v315, rfl, ho0, hb⟩; have n0_ := Ext.a (Kd.R_elder' (Ext.nR ((Kd.R_mono (Kd.R_far (p := ⟨gb307, 0, none⟩) (Kd.R_types HO310.out BK307.out (by decide)) (fun _ hk => hk.2) (.slice Ao15 t308.length co15)) (fun _ h_ => h_.1)))) (Kd.R_base ho0) hb); have n1_ := Ext.a (Kd.R_lower (Kd.R_new' ho0 (Kd.R_lt (Ext.nR ((Kd.R_mono (Kd.R_far (p := ⟨gb307, 0, none⟩) (Kd.R_types HO310.out BK307.out (by decide)) (fun _ hk => hk.2) (.slice Ao15 t308.length co15)) (fun _ h_ => h_.1)))))) (below_size (by repeat (first | (with_reducible first | exact HB.out | apply below_alloc | apply pw_below_drewN | apply below_drew1 | refine below_set ?_ GE305.out | refine below_set ?_ GE307.out | refine below_set ?_ (IsS53.ge HI306.out)) | exact HB.out | exact Below.refl _ _)))); have n2_ := Ext.a (blk_below (g := gb305) (o := .cells #[.slice none 0 0, .slice none 0 0, .int .i64 x306002_1, .int .i64 x306003_1, .int .i64 x306004_1, .int .i64 x306005_1] 24 (0, 0)) (by refine blk_far ?_ NB305_307.out _; exact BK305.out) hb); have n3_ := Ext.a (IsS53.below (show IsS53 w (w14.setCell ⟨gb307, 0, none⟩ (.slice Ao15 t308.length co15)) gb306 l0 t311 t312 from by repeat (first | (with_reducible first | exact HI306.out | apply IsS53.alloc | apply IsS53.drewN | apply IsS53.drew | apply IsS53.set_1 | apply IsS53.set_2 | refine IsS53.far ?_ NB306_305.out _ | refine IsS53.far ?_ NB306_307.out _) | exact HI306.out)) hb); have n4_ := Ext.a (blk_below (g := gb307) (o := .cells #[.slice Ao15 t308.length co15, .slice none 0 0, .int .i64 0, .int .i64 0, .int .i64 0, .int .i64 0] 24 (0, 0)) (by refine blk_put (cs := #[.slice none 0 0, .slice none 0 0, .int .i64 0, .int .i64 0, .int .i64 0, .int .i64 0]) ?_ 0 _ rfl; exact BK307.out) hb); have n5_ := Ext.a (below_step (by repeat (first | (with_reducible first | exact HB.out | apply below_alloc | apply pw_below_drewN | apply below_drew1 | refine below_set ?_ GE305.out | refine below_set ?_ GE307.out | refine below_set ?_ (IsS53.ge HI306.out)) | exact HB.out | exact Below.refl _ _)) hb); clear HO310 BK305 HI306 BK307 HB; have HO310 := n0_; have HO316 := n1_; have BK305 := n2_; have HI306 := n3_; have BK307 := n4_; have HB := n5_; clear n0_ n1_ n2_ n3_ n4_ n5_; (try clear hb); (try clear hb2); (try clear hk); (try clear hi); (try clear ho0); obtain ⟨Ao28, co28, eo28⟩ := Kd.R_slice HO316.out; subst eo28) | (go_at_call 15; (with_reducible refine (terrierref01_Same.calls _ _ t314 _ _ l0 t317 _ ?side1 ?side2 ?side3 ?side4 A22.out).mono ?_); (case side1 => exact Ext.nC (Kd.R_reads' HO316.out).2.2); (case side2 => exact (Kd.R_reads' HO316.out).2.1); (case side3 => repeat (first | exact (Kd.C_below HR0.out HB.out) | exact HR0.out | (with_reducible refine Kd.C_alloc ?_ _) | (with_reducible refine Kd.C_drewN ?_ _) | (with_reducible refine Kd.C_drew ?_))); (case side4 => exact HC0.out); rintro e w' ⟨rfl, ⟨nd, rfl⟩⟩))
         go_meet
         case rel => exact ⟨_, (t317), (by first | rfl | (simp; done) | (simp [*]; done)), H', ⟨by have := HJ1.out; first | omega | exact Nat.le_refl _⟩, ⟨by (with_reducible repeat (first | apply Kd.R_alloc | apply Kd.R_drewN | apply Kd.R_drew)); exact Kd.R_mono HO310.out (fun _ hk => trivial)⟩, ⟨by (with_reducible repeat (first | refine blk_drewN ?_ _ | refine blk_drew ?_ | refine blk_alloc ?_ _)); exact BK305.out⟩, ⟨by (with_reducible repeat (first | refine blk_drewN ?_ _ | refine blk_drew ?_ | refine blk_alloc ?_ _)); exact BK307.out⟩, ⟨by repeat (first | (with_reducible first | exact HB.out | apply below_alloc | apply pw_below_drewN | apply below_drew1 | refine below_set ?_ GE305.out | refine below_set ?_ GE307.out | refine below_set ?_ (IsS53.ge HI306.out)) | exact HB.out | exact Below.refl _ _)⟩⟩
        ·
         rw [if_neg c20] at H
         have c20b0 : decide (0 < (t308.length : Int)) = false := decide_eq_false c20
         have c20b1 : decide (0 < t308.length) = false := decide_eq_false (by omega)
         clear c20
         have H' := Aside0.mk H
         clear H
         obtain ⟨ASz29_0, cSz29_0, HGz29, hgz29, HSz29_0⟩ := HI306.out
         have hcz29_0 := cellS53_0 HGz29
         have hcz29_1 := cellS53_1 HGz29
         have hcz29_2 := cellS53_2 HGz29
         have hfz29_1 := blk_frozen HGz29 1
         have hfz29_2 := blk_frozen HGz29 2
         clear HGz29 hgz29
         have hnb30 := NB307_305.out
         have hnc30 := NB305_307.out
         have hnb31 := NB307_306.out
         have hnc31 := NB306_307.out
         have hcz32_0 : w14.cell? ⟨gb307, 0, none⟩ = some (.slice none 0 0) := (blk_cell BK307.out 0).trans rfl
         have hcz32_1 : w14.cell? ⟨gb307, 1, none⟩ = some (.slice none 0 0) := (blk_cell BK307.out 1).trans rfl
         have hcz32_2 : w14.cell? ⟨gb307, 2, none⟩ = some (.int .i64 0) := (blk_cell BK307.out 2).trans rfl
         have hcz32_3 : w14.cell? ⟨gb307, 3, none⟩ = some (.int .i64 0) := (blk_cell BK307.out 3).trans rfl
         have hcz32_4 : w14.cell? ⟨gb307, 4, none⟩ = some (.int .i64 0) := (blk_cell BK307.out 4).trans rfl
         have hcz32_5 : w14.cell? ⟨gb307, 5, none⟩ = some (.int .i64 0) := (blk_cell BK307.out 5).trans rfl
         have hfz32_0 := blk_frozen BK307.out 0
         have hfz32_1 := blk_frozen BK307.out 1
         have hfz32_2 := blk_frozen BK307.out 2
         have hfz32_3 := blk_frozen BK307.out 3
         have hfz32_4 := blk_frozen BK307.out 4
         have hfz32_5 := blk_frozen BK307.out 5
         go_wp2
         go_meet
         case rel => exact ⟨_, (false), (by first | rfl | (simp; done) | (simp [*]; done)), H', ⟨by have := HJ1.out; first | omega | exact Nat.le_refl _⟩, ⟨by (with_reducible repeat (first | apply Kd.R_alloc | apply Kd.R_drewN | apply Kd.R_drew)); exact Kd.R_mono (Kd.R_far (p := ⟨gb307, 0, none⟩) (Kd.R_types HO310.out BK307.out (by decide)) (fun _ hk => hk.2) (.slice Ao15 t308.length co15)) (fun _ hk => trivial)⟩, ⟨by refine blk_far ?_ NB305_307.out _; exact BK305.out⟩, ⟨by refine blk_put (cs := #[.slice none 0 0, .slice none 0 0, .int .i64 0, .int .i64 0, .int .i64 0, .int .i64 0]) ?_ 0 _ rfl; exact BK307.out⟩, ⟨by repeat (first | (with_reducible first | exact HB.out | apply below_alloc | apply pw_below_drewN | apply below_drew1 | refine below_set ?_ GE305.out | refine below_set ?_ GE307.out | refine below_set ?_ (IsS53.ge HI306.out)) | exact HB.out | exact Below.refl _ _)⟩⟩
       ·
        rw [if_neg c19] at H
        have c19b0 : (t312 == 0) = false := beq_eq_false_iff_ne.mpr c19
        have c19b1 : (t312 != 0) = true := bne_iff_ne.mpr c19
        (first | rw [c19b0] | (simp only [i64_w, i32_w]; rw [c19b0]) | skip)
        have H' := Aside0.mk H
        clear H
        obtain ⟨ASz33_0, cSz33_0, HGz33, hgz33, HSz33_0⟩ := HI306.out
        have hcz33_0 := cellS53_0 HGz33
        have hcz33_1 := cellS53_1 HGz33
        have hcz33_2 := cellS53_2 HGz33
        have hfz33_1 := blk_frozen HGz33 1
        have hfz33_2 := blk_frozen HGz33 2
        clear HGz33 hgz33
        go_wp2
        go_meet
        case rel => exact ⟨_, (false), (by first | rfl | (simp; done) | (simp [*]; done)), H', ⟨by have := HJ1.out; first | omega | exact Nat.le_refl _⟩, ⟨by (with_reducible repeat (first | apply Kd.R_alloc | apply Kd.R_drewN | apply Kd.R_drew)); exact Kd.R_mono (Kd.R_far (p := ⟨gb307, 0, none⟩) (Kd.R_types HO310.out BK307.out (by decide)) (fun _ hk => hk.2) (.slice Ao15 t308.length co15)) (fun _ hk => trivial)⟩, ⟨by refine blk_far ?_ NB305_307.out _; exact BK305.out⟩, ⟨by refine blk_put (cs := #[.slice none 0 0, .slice none 0 0, .int .i64 0, .int .i64 0, .int .i64 0, .int .i64 0]) ?_ 0 _ rfl; exact BK307.out⟩, ⟨by repeat (first | (with_reducible first | exact HB.out | apply below_alloc | apply pw_below_drewN | apply below_drew1 | refine below_set ?_ GE305.out | refine below_set ?_ GE307.out | refine below_set ?_ (IsS53.ge HI306.out)) | exact HB.out | exact Below.refl _ _)⟩⟩
      case rest =>
       clear HC18
       try clear c1
       try clear c2
       try clear p2
       try clear c3
       try clear p3
       try clear q3
       try clear hx3
       try clear qi3
       try clear c4
       try clear c4b0
       try clear c4b1
       try clear c4b2
       try clear c7
       try clear c7b0
       try clear c7b1
       try clear c11
       try clear c12
       try clear c17
       try clear c17b0
       try clear c17b1
       try clear c19
       try clear c19b0
       try clear c19b1
       try clear c20
       try clear c20b0
       try clear c20b1
       try clear c22
       try clear c24
       try clear c25
       try clear c30
       try clear c31
       try clear p31
       try clear q31
       try clear hx31
       try clear qi31
       try clear hcz13_0
       try clear hcz13_1
       try clear hcz13_2
       try clear hcz13_3
       try clear hcz13_4
       try clear hcz13_5
       try clear hcz16_0
       try clear hcz16_1
       try clear hcz16_2
       try clear hcz16_3
       try clear hcz16_4
       try clear hcz16_5
       try clear hcz23_0
       try clear hcz23_1
       try clear hcz23_2
       try clear hcz26_0
       try clear hcz26_1
       try clear hcz26_2
       try clear hcz26_3
       try clear hcz26_4
       try clear hcz26_5
       try clear hcz29_0
       try clear hcz29_1
       try clear hcz29_2
       try clear hcz32_0
       try clear hcz32_1
       try clear hcz32_2
       try clear hcz32_3
       try clear hcz32_4
       try clear hcz32_5
       try clear hcz33_0
       try clear hcz33_1
       try clear hcz33_2
       try clear hcz5_0
       try clear hcz5_1
       try clear hcz5_2
       try clear hcz5_3
       try clear hcz5_4
       try clear hcz5_5
       try clear hfz13_0
       try clear hfz13_1
       try clear hfz13_2
       try clear hfz13_3
       try clear hfz13_4
       try clear hfz13_5
       try clear hfz16_0
       try clear hfz16_1
       try clear hfz16_2
       try clear hfz16_3
       try clear hfz16_4
       try clear hfz16_5
       try clear hfz23_1
       try clear hfz23_2
       try clear hfz26_0
       try clear hfz26_1
       try clear hfz26_2
       try clear hfz26_3
       try clear hfz26_4
       try clear hfz26_5
       try clear hfz29_1
       try clear hfz29_2
       try clear hfz32_0
       try clear hfz32_1
       try clear hfz32_2
       try clear hfz32_3
       try clear hfz32_4
       try clear hfz32_5
       try clear hfz33_1
       try clear hfz33_2
       try clear hfz5_0
       try clear hfz5_1
       try clear hfz5_2
       try clear hfz5_3
       try clear hfz5_4
       try clear hfz5_5
       try clear hx313_0
       try clear p2
       try clear p313
       try clear q313
       obtain ⟨kq, x39_17, rfl, HA, HJ17, HO_308000, BK305, BK307, HB⟩ := hcut
       cases kq with
       | zero => exact absurd HA.out (by simp [terrierref13_Decode.j1])
       | succ kj17 =>
        have H := HA.out
        clear HA
        simp only [terrierref13_Decode.j1] at H
        by_cases c34 : x39_17 = true
        ·
         subst c34
         have H1 : (some (t308, ([] : List Int), 0, 0, 0, 0, true, true)) = some (r1, r2, r3, r4, r5, r6, r7, r8) := by rw [if_pos rfl] at H; exact H
         clear H
         have H := H1
         clear H1
         simp only [Option.some.injEq, Prod.mk.injEq] at H
         obtain ⟨rfl, rfl, rfl, rfl, rfl, rfl, rfl, rfl⟩ := H
         have hnb35 := NB307_305.out
         have hnc35 := NB305_307.out
         have hcz36_0 : wc.cell? ⟨gb307, 0, none⟩ = some (.slice Ao15 t308.length co15) := (blk_cell BK307.out 0).trans rfl
         have hcz36_1 : wc.cell? ⟨gb307, 1, none⟩ = some (.slice none 0 0) := (blk_cell BK307.out 1).trans rfl
         have hcz36_2 : wc.cell? ⟨gb307, 2, none⟩ = some (.int .i64 0) := (blk_cell BK307.out 2).trans rfl
         have hcz36_3 : wc.cell? ⟨gb307, 3, none⟩ = some (.int .i64 0) := (blk_cell BK307.out 3).trans rfl
         have hcz36_4 : wc.cell? ⟨gb307, 4, none⟩ = some (.int .i64 0) := (blk_cell BK307.out 4).trans rfl
         have hcz36_5 : wc.cell? ⟨gb307, 5, none⟩ = some (.int .i64 0) := (blk_cell BK307.out 5).trans rfl
         have hfz36_0 := blk_frozen BK307.out 0
         have hfz36_1 := blk_frozen BK307.out 1
         have hfz36_2 := blk_frozen BK307.out 2
         have hfz36_3 := blk_frozen BK307.out 3
         have hfz36_4 := blk_frozen BK307.out 4
         have hfz36_5 := blk_frozen BK307.out 5
         have hcz37_0 : wc.cell? ⟨gb305, 0, none⟩ = some (.slice none 0 0) := (blk_cell BK305.out 0).trans rfl
         have hcz37_1 : wc.cell? ⟨gb305, 1, none⟩ = some (.slice none 0 0) := (blk_cell BK305.out 1).trans rfl
         have hcz37_2 : wc.cell? ⟨gb305, 2, none⟩ = some (.int .i64 x306002_1) := (blk_cell BK305.out 2).trans rfl
         have hcz37_3 : wc.cell? ⟨gb305, 3, none⟩ = some (.int .i64 x306003_1) := (blk_cell BK305.out 3).trans rfl
         have hcz37_4 : wc.cell? ⟨gb305, 4, none⟩ = some (.int .i64 x306004_1) := (blk_cell BK305.out 4).trans rfl
         have hcz37_5 : wc.cell? ⟨gb305, 5, none⟩ = some (.int .i64 x306005_1) := (blk_cell BK305.out 5).trans rfl
         have hfz37_0 := blk_frozen BK305.out 0
         have hfz37_1 := blk_frozen BK305.out 1
         have hfz37_2 := blk_frozen BK305.out 2
         have hfz37_3 := blk_frozen BK305.out 3
         have hfz37_4 := blk_frozen BK305.out 4
         have hfz37_5 := blk_frozen BK305.out 5
         go_wp2
         refine bodyPost_ret (results_ctt rfl _ _ gb305 24 #[.slice Ao15 t308.length co15, .slice none 0 0, .int .i64 0, .int .i64 0, .int .i64 0, .int .i64 0] (0, 0) _ rfl (by refine blk_put (cs := #[.slice Ao15 t308.length co15, .slice none 0 0, .int .i64 0, .int .i64 0, .int .i64 0, .int .i64 x306005_1]) ?_ 5 _ rfl; refine blk_put (cs := #[.slice Ao15 t308.length co15, .slice none 0 0, .int .i64 0, .int .i64 0, .int .i64 x306004_1, .int .i64 x306005_1]) ?_ 4 _ rfl; refine blk_put (cs := #[.slice Ao15 t308.length co15, .slice none 0 0, .int .i64 0, .int .i64 x306003_1, .int .i64 x306004_1, .int .i64 x306005_1]) ?_ 3 _ rfl; refine blk_put (cs := #[.slice Ao15 t308.length co15, .slice none 0 0, .int .i64 x306002_1, .int .i64 x306003_1, .int .i64 x306004_1, .int .i64 x306005_1]) ?_ 2 _ rfl; refine blk_put (cs := #[.slice Ao15 t308.length co15, .slice none 0 0, .int .i64 x306002_1, .int .i64 x306003_1, .int .i64 x306004_1, .int .i64 x306005_1]) ?_ 1 _ rfl; refine blk_put (cs := #[.slice none 0 0, .slice none 0 0, .int .i64 x306002_1, .int .i64 x306003_1, .int .i64 x306004_1, .int .i64 x306005_1]) ?_ 0 _ rfl; exact BK305.out) Try.underlying24 rfl (by kernel_rfl)) rfl ?_
         exact ⟨_, _, by first | rfl | (simp [errW_none, errW_some] <;> rfl) | (simp [*, errW_none, errW_some] <;> rfl), by (with_reducible repeat (first | apply Kd.R_alloc | apply Kd.R_drewN | apply Kd.R_drew)); exact Kd.R_mono (Kd.R_far (p := ⟨gb305, 5, none⟩) (Kd.R_far (p := ⟨gb305, 4, none⟩) (Kd.R_far (p := ⟨gb305, 3, none⟩) (Kd.R_far (p := ⟨gb305, 2, none⟩) (Kd.R_far (p := ⟨gb305, 1, none⟩) (Kd.R_far (p := ⟨gb305, 0, none⟩) (Kd.R_types HO_308000.out BK305.out (by decide)) (fun _ hk => hk.2) (.slice Ao15 t308.length co15)) (fun _ hk => hk.2) (.slice none 0 0)) (fun _ hk => hk.2) (.int .i64 0)) (fun _ hk => hk.2) (.int .i64 0)) (fun _ hk => hk.2) (.int .i64 0)) (fun _ hk => hk.2) (.int .i64 0)) (fun _ hk => (by simp [Value.ownBlock])), by first | exact Kd.R_nil _ _ _ _ _ | exact Kd.N_nil _ _ _ _ _ | exact Kd.V_nil _ _ _ _ _ | exact Kd.Q_nil _ _ _ _ _ | exact Kd.S_nil _ _ _ _ _, by repeat (first | (with_reducible first | exact HB.out | apply Ext.ba | apply Ext.bn | apply Ext.bd | refine Ext.bs ?_ GE305.out | refine Ext.bs ?_ GE307.out) | exact HB.out | exact .refl _ _)⟩
        ·
         replace c34 := Bool.eq_false_iff.mpr c34
         subst c34
         have H1 : (some (([] : List Int), ([] : List Int), 0, 0, 0, 0, false, false)) = some (r1, r2, r3, r4, r5, r6, r7, r8) := by rw [if_neg (show ¬ (false = true) by decide)] at H; exact H
         clear H
         have H := H1
         clear H1
         simp only [Option.some.injEq, Prod.mk.injEq] at H
         obtain ⟨rfl, rfl, rfl, rfl, rfl, rfl, rfl, rfl⟩ := H
         have hnb38 := NB305_307.out
         have hnc38 := NB307_305.out
         have hcz39_0 : wc.cell? ⟨gb305, 0, none⟩ = some (.slice none 0 0) := (blk_cell BK305.out 0).trans rfl
         have hcz39_1 : wc.cell? ⟨gb305, 1, none⟩ = some (.slice none 0 0) := (blk_cell BK305.out 1).trans rfl
         have hcz39_2 : wc.cell? ⟨gb305, 2, none⟩ = some (.int .i64 x306002_1) := (blk_cell BK305.out 2).trans rfl
         have hcz39_3 : wc.cell? ⟨gb305, 3, none⟩ = some (.int .i64 x306003_1) := (blk_cell BK305.out 3).trans rfl
         have hcz39_4 : wc.cell? ⟨gb305, 4, none⟩ = some (.int .i64 x306004_1) := (blk_cell BK305.out 4).trans rfl
         have hcz39_5 : wc.cell? ⟨gb305, 5, none⟩ = some (.int .i64 x306005_1) := (blk_cell BK305.out 5).trans rfl
         have hfz39_0 := blk_frozen BK305.out 0
         have hfz39_1 := blk_frozen BK305.out 1
         have hfz39_2 := blk_frozen BK305.out 2
         have hfz39_3 := blk_frozen BK305.out 3
         have hfz39_4 := blk_frozen BK305.out 4
         have hfz39_5 := blk_frozen BK305.out 5
         go_wp2
         refine bodyPost_ret (results_ctt rfl _ _ gb305 24 #[.slice none 0 0, .slice none 0 0, .int .i64 0, .int .i64 0, .int .i64 0, .int .i64 0] (0, 0) _ rfl (by refine blk_put (cs := #[.slice none 0 0, .slice none 0 0, .int .i64 0, .int .i64 0, .int .i64 0, .int .i64 x306005_1]) ?_ 5 _ rfl; refine blk_put (cs := #[.slice none 0 0, .slice none 0 0, .int .i64 0, .int .i64 0, .int .i64 x306004_1, .int .i64 x306005_1]) ?_ 4 _ rfl; refine blk_put (cs := #[.slice none 0 0, .slice none 0 0, .int .i64 0, .int .i64 x306003_1, .int .i64 x306004_1, .int .i64 x306005_1]) ?_ 3 _ rfl; refine blk_put (cs := #[.slice none 0 0, .slice none 0 0, .int .i64 x306002_1, .int .i64 x306003_1, .int .i64 x306004_1, .int .i64 x306005_1]) ?_ 2 _ rfl; refine blk_put (cs := #[.slice none 0 0, .slice none 0 0, .int .i64 x306002_1, .int .i64 x306003_1, .int .i64 x306004_1, .int .i64 x306005_1]) ?_ 1 _ rfl; refine blk_put (cs := #[.slice none 0 0, .slice none 0 0, .int .i64 x306002_1, .int .i64 x306003_1, .int .i64 x306004_1, .int .i64 x306005_1]) ?_ 0 _ rfl; exact BK305.out) Try.underlying24 rfl (by kernel_rfl)) rfl ?_
         exact ⟨_, _, by first | rfl | (simp [errW_none, errW_some] <;> rfl) | (simp [*, errW_none, errW_some] <;> rfl), by first | exact Kd.R_nil _ _ _ _ _ | exact Kd.N_nil _ _ _ _ _ | exact Kd.V_nil _ _ _ _ _ | exact Kd.Q_nil _ _ _ _ _ | exact Kd.S_nil _ _ _ _ _, by first | exact Kd.R_nil _ _ _ _ _ | exact Kd.N_nil _ _ _ _ _ | exact Kd.V_nil _ _ _ _ _ | exact Kd.Q_nil _ _ _ _ _ | exact Kd.S_nil _ _ _ _ _, by repeat (first | (with_reducible first | exact HB.out | apply Ext.ba | apply Ext.bn | apply Ext.bd | refine Ext.bs ?_ GE305.out | refine Ext.bs ?_ GE307.out) | exact HB.out | exact .refl _ _)⟩
     ·
      rw [if_neg c17] at H
      have c17b0 : ((rd l0 0) == 2) = false := beq_eq_false_iff_ne.mpr c17
      have c17b1 : ((rd l0 0) != 2) = true := bne_iff_ne.mpr c17
      (first | rw [c17b0] | (simp only [i64_w, i32_w]; rw [c17b0]) | skip)
      have H' := Aside0.mk H
      clear H
      go_wp2
      go_meet
      case rel => exact ⟨_, (x306002_1), (x306003_1), (x306004_1), (x306005_1), H', ⟨by have := HJ1.out; first | omega | exact Nat.le_refl _⟩, ⟨by (with_reducible repeat (first | apply Kd.R_alloc | apply Kd.R_drewN | apply Kd.R_drew)); exact Kd.R_mono (Kd.R_far (p := ⟨gb307, 0, none⟩) (Kd.R_types HO310.out BK307.out (by decide)) (fun _ hk => hk.2) (.slice Ao15 t308.length co15)) (fun _ hk => trivial)⟩, ⟨by refine blk_far ?_ NB305_307.out _; exact BK305.out⟩, ⟨by refine blk_put (cs := #[.slice none 0 0, .slice none 0 0, .int .i64 0, .int .i64 0, .int .i64 0, .int .i64 0]) ?_ 0 _ rfl; exact BK307.out⟩, ⟨by repeat (first | (with_reducible first | exact HI306.out | apply IsS53.alloc | apply IsS53.drewN | apply IsS53.drew | apply IsS53.set_1 | apply IsS53.set_2 | refine IsS53.far ?_ NB306_305.out _ | refine IsS53.far ?_ NB306_307.out _) | exact HI306.out)⟩, ⟨by repeat (first | (with_reducible first | exact HB.out | apply below_alloc | apply pw_below_drewN | apply below_drew1 | refine below_set ?_ GE305.out | refine below_set ?_ GE307.out | refine below_set ?_ (IsS53.ge HI306.out)) | exact HB.out | exact Below.refl _ _)⟩⟩
    case rest =>
     clear HC8
     try clear c1
     try clear c2
     try clear p2
     try clear c3
     try clear p3
     try clear q3
     try clear hx3
     try clear qi3
     try clear c4
     try clear c4b0
     try clear c4b1
     try clear c4b2
     try clear c7
     try clear c7b0
     try clear c7b1
     try clear c11
     try clear c12
     try clear c17
     try clear c17b0
     try clear c17b1
     try clear c19
     try clear c19b0
     try clear c19b1
     try clear c20
     try clear c20b0
     try clear c20b1
     try clear c22
     try clear c24
     try clear c25
     try clear c30
     try clear c31
     try clear p31
     try clear q31
     try clear hx31
     try clear qi31
     try clear c34
     try clear c35
     try clear c38
     try clear hcz13_0
     try clear hcz13_1
     try clear hcz13_2
     try clear hcz13_3
     try clear hcz13_4
     try clear hcz13_5
     try clear hcz16_0
     try clear hcz16_1
     try clear hcz16_2
     try clear hcz16_3
     try clear hcz16_4
     try clear hcz16_5
     try clear hcz23_0
     try clear hcz23_1
     try clear hcz23_2
     try clear hcz26_0
     try clear hcz26_1
     try clear hcz26_2
     try clear hcz26_3
     try clear hcz26_4
     try clear hcz26_5
     try clear hcz29_0
     try clear hcz29_1
     try clear hcz29_2
     try clear hcz32_0
     try clear hcz32_1
     try clear hcz32_2
     try clear hcz32_3
     try clear hcz32_4
     try clear hcz32_5
     try clear hcz33_0
     try clear hcz33_1
     try clear hcz33_2
     try clear hcz36_0
     try clear hcz36_1
     try clear hcz36_2
     try clear hcz36_3
     try clear hcz36_4
     try clear hcz36_5
     try clear hcz37_0
     try clear hcz37_1
     try clear hcz37_2
     try clear hcz37_3
     try clear hcz37_4
     try clear hcz37_5
     try clear hcz39_0
     try clear hcz39_1
     try clear hcz39_2
     try clear hcz39_3
     try clear hcz39_4
     try clear hcz39_5
     try clear hcz5_0
     try clear hcz5_1
     try clear hcz5_2
     try clear hcz5_3
     try clear hcz5_4
     try clear hcz5_5
     try clear hfz13_0
     try clear hfz13_1
     try clear hfz13_2
     try clear hfz13_3
     try clear hfz13_4
     try clear hfz13_5
     try clear hfz16_0
     try clear hfz16_1
     try clear hfz16_2
     try clear hfz16_3
     try clear hfz16_4
     try clear hfz16_5
     try clear hfz23_1
     try clear hfz23_2
     try clear hfz26_0
     try clear hfz26_1
     try clear hfz26_2
     try clear hfz26_3
     try clear hfz26_4
     try clear hfz26_5
     try clear hfz29_1
     try clear hfz29_2
     try clear hfz32_0
     try clear hfz32_1
     try clear hfz32_2
     try clear hfz32_3
     try clear hfz32_4
     try clear hfz32_5
     try clear hfz33_1
     try clear hfz33_2
     try clear hfz36_0
     try clear hfz36_1
     try clear hfz36_2
     try clear hfz36_3
     try clear hfz36_4
     try clear hfz36_5
     try clear hfz37_0
     try clear hfz37_1
     try clear hfz37_2
     try clear hfz37_3
     try clear hfz37_4
     try clear hfz37_5
     try clear hfz39_0
     try clear hfz39_1
     try clear hfz39_2
     try clear hfz39_3
     try clear hfz39_4
     try clear hfz39_5
     try clear hfz5_0
     try clear hfz5_1
     try clear hfz5_2
     try clear hfz5_3
     try clear hfz5_4
     try clear hfz5_5
     try clear hx313_0
     try clear p2
     try clear p3
     try clear p31
     try clear p313
     try clear q3
     try clear q31
     try clear q313
     obtain ⟨kq, x306002_7, x306003_7, x306004_7, x306005_7, HA, HJ7, HO_308000, BK305, BK307, HI306, HB⟩ := hcut
     cases kq with
     | zero => exact absurd HA.out (by simp [terrierref13_Decode.j2])
     | succ kj7 =>
      have H := HA.out
      clear HA
      simp only [terrierref13_Decode.j2] at H
      replace H := Option.bind_eq_some_iff.mp H
      obtain ⟨⟨t318, t319, t320⟩, A400, H⟩ := H
      replace H : ((terrierref01_Reader_Num.f kj7 l0 t319 t320 8).bind fun bt321 => ((terrierref01_Reader_Num.f kj7 l0 bt321.2.1 bt321.2.2 8).bind fun bt324 => ((terrierref01_Reader_Num.f kj7 l0 bt324.2.1 bt324.2.2 8).bind fun bt327 => ((terrierref01_Reader_Text.f kj7 l0 bt327.2.1 bt327.2.2 1024).bind fun bt330 => (if bt330.2.2 = 0 then ((terrierref13_Right.f t308 bt330.1 (wrap64 (t318)) (wrap64 (bt321.1)) (wrap64 (bt324.1)) (wrap64 (bt327.1))).bind fun t335 => (if t335 = true then ((terrierref13_Encode.f kj7 t308 bt330.1 (wrap64 (t318)) (wrap64 (bt321.1)) (wrap64 (bt324.1)) (wrap64 (bt327.1))).bind fun t336 => ((terrierref01_Same.f t336 l0).bind fun t339 => (terrierref13_Decode.j3 kj7 (!t339) t308 bt330.1 (wrap64 (t318)) (wrap64 (bt321.1)) (wrap64 (bt324.1)) (wrap64 (bt327.1))))) else (terrierref13_Decode.j3 kj7 true t308 bt330.1 (wrap64 (t318)) (wrap64 (bt321.1)) (wrap64 (bt324.1)) (wrap64 (bt327.1))))) else (terrierref13_Decode.j3 kj7 true t308 bt330.1 (wrap64 (t318)) (wrap64 (bt321.1)) (wrap64 (bt324.1)) (wrap64 (bt327.1)))))))) = some (r1, r2, r3, r4, r5, r6, r7, r8) := H
      have A40 := Aside0.mk A400
      clear A400
      replace H := Option.bind_eq_some_iff.mp H
      obtain ⟨⟨t321, t322, t323⟩, A410, H⟩ := H
      replace H : ((terrierref01_Reader_Num.f kj7 l0 t322 t323 8).bind fun bt324 => ((terrierref01_Reader_Num.f kj7 l0 bt324.2.1 bt324.2.2 8).bind fun bt327 => ((terrierref01_Reader_Text.f kj7 l0 bt327.2.1 bt327.2.2 1024).bind fun bt330 => (if bt330.2.2 = 0 then ((terrierref13_Right.f t308 bt330.1 (wrap64 (t318)) (wrap64 (t321)) (wrap64 (bt324.1)) (wrap64 (bt327.1))).bind fun t335 => (if t335 = true then ((terrierref13_Encode.f kj7 t308 bt330.1 (wrap64 (t318)) (wrap64 (t321)) (wrap64 (bt324.1)) (wrap64 (bt327.1))).bind fun t336 => ((terrierref01_Same.f t336 l0).bind fun t339 => (terrierref13_Decode.j3 kj7 (!t339) t308 bt330.1 (wrap64 (t318)) (wrap64 (t321)) (wrap64 (bt324.1)) (wrap64 (bt327.1))))) else (terrierref13_Decode.j3 kj7 true t308 bt330.1 (wrap64 (t318)) (wrap64 (t321)) (wrap64 (bt324.1)) (wrap64 (bt327.1))))) else (terrierref13_Decode.j3 kj7 true t308 bt330.1 (wrap64 (t318)) (wrap64 (t321)) (wrap64 (bt324.1)) (wrap64 (bt327.1))))))) = some (r1, r2, r3, r4, r5, r6, r7, r8) := H
      have A41 := Aside0.mk A410
      clear A410
      replace H := Option.bind_eq_some_iff.mp H
      obtain ⟨⟨t324, t325, t326⟩, A420, H⟩ := H
      replace H : ((terrierref01_Reader_Num.f kj7 l0 t325 t326 8).bind fun bt327 => ((terrierref01_Reader_Text.f kj7 l0 bt327.2.1 bt327.2.2 1024).bind fun bt330 => (if bt330.2.2 = 0 then ((terrierref13_Right.f t308 bt330.1 (wrap64 (t318)) (wrap64 (t321)) (wrap64 (t324)) (wrap64 (bt327.1))).bind fun t335 => (if t335 = true then ((terrierref13_Encode.f kj7 t308 bt330.1 (wrap64 (t318)) (wrap64 (t321)) (wrap64 (t324)) (wrap64 (bt327.1))).bind fun t336 => ((terrierref01_Same.f t336 l0).bind fun t339 => (terrierref13_Decode.j3 kj7 (!t339) t308 bt330.1 (wrap64 (t318)) (wrap64 (t321)) (wrap64 (t324)) (wrap64 (bt327.1))))) else (terrierref13_Decode.j3 kj7 true t308 bt330.1 (wrap64 (t318)) (wrap64 (t321)) (wrap64 (t324)) (wrap64 (bt327.1))))) else (terrierref13_Decode.j3 kj7 true t308 bt330.1 (wrap64 (t318)) (wrap64 (t321)) (wrap64 (t324)) (wrap64 (bt327.1)))))) = some (r1, r2, r3, r4, r5, r6, r7, r8) := H
      have A42 := Aside0.mk A420
      clear A420
      replace H := Option.bind_eq_some_iff.mp H
      obtain ⟨⟨t327, t328, t329⟩, A430, H⟩ := H
      replace H : ((terrierref01_Reader_Text.f kj7 l0 t328 t329 1024).bind fun bt330 => (if bt330.2.2 = 0 then ((terrierref13_Right.f t308 bt330.1 (wrap64 (t318)) (wrap64 (t321)) (wrap64 (t324)) (wrap64 (t327))).bind fun t335 => (if t335 = true then ((terrierref13_Encode.f kj7 t308 bt330.1 (wrap64 (t318)) (wrap64 (t321)) (wrap64 (t324)) (wrap64 (t327))).bind fun t336 => ((terrierref01_Same.f t336 l0).bind fun t339 => (terrierref13_Decode.j3 kj7 (!t339) t308 bt330.1 (wrap64 (t318)) (wrap64 (t321)) (wrap64 (t324)) (wrap64 (t327))))) else (terrierref13_Decode.j3 kj7 true t308 bt330.1 (wrap64 (t318)) (wrap64 (t321)) (wrap64 (t324)) (wrap64 (t327))))) else (terrierref13_Decode.j3 kj7 true t308 bt330.1 (wrap64 (t318)) (wrap64 (t321)) (wrap64 (t324)) (wrap64 (t327))))) = some (r1, r2, r3, r4, r5, r6, r7, r8) := H
      have A43 := Aside0.mk A430
      clear A430
      replace H := Option.bind_eq_some_iff.mp H
      obtain ⟨⟨t330, t333, t334⟩, A440, H⟩ := H
      replace H : (if t334 = 0 then ((terrierref13_Right.f t308 t330 (wrap64 (t318)) (wrap64 (t321)) (wrap64 (t324)) (wrap64 (t327))).bind fun t335 => (if t335 = true then ((terrierref13_Encode.f kj7 t308 t330 (wrap64 (t318)) (wrap64 (t321)) (wrap64 (t324)) (wrap64 (t327))).bind fun t336 => ((terrierref01_Same.f t336 l0).bind fun t339 => (terrierref13_Decode.j3 kj7 (!t339) t308 t330 (wrap64 (t318)) (wrap64 (t321)) (wrap64 (t324)) (wrap64 (t327))))) else (terrierref13_Decode.j3 kj7 true t308 t330 (wrap64 (t318)) (wrap64 (t321)) (wrap64 (t324)) (wrap64 (t327))))) else (terrierref13_Decode.j3 kj7 true t308 t330 (wrap64 (t318)) (wrap64 (t321)) (wrap64 (t324)) (wrap64 (t327)))) = some (r1, r2, r3, r4, r5, r6, r7, r8) := H
      have A44 := Aside0.mk A440
      clear A440
      have HC45 := Aside0.mk H
      clear H
      go_upto_region 15 with (first | ((with_reducible refine gate_callee (f := 35) rfl ?_); refine goesL_ (some 43) rfl rfl Try.func35 (by kernel_rfl) rfl #[.pointer (some ⟨gb306, 0, none⟩), .int .i64 8] rfl (by (try simp only [List.map_toArray, List.map_cons, List.map_nil]); first | done | rfl | (simp only [List.length_drop, List.length_take]; rfl)) ?_; (with_reducible refine (terrierref01_Reader_Num.calls kj7 gb306 l0 t311 t312 8 t318 t319 t320 w _ ?side1 ?side2 A40.out).mono ?_); (case side1 => repeat (first | (with_reducible first | exact HI306.out | apply IsS53.alloc | apply IsS53.drewN | apply IsS53.drew | apply IsS53.set_1 | apply IsS53.set_2 | refine IsS53.far ?_ NB306_305.out _ | refine IsS53.far ?_ NB306_307.out _) | exact HI306.out)); (case side2 => repeat (first | (with_reducible first | exact HB.out | apply below_alloc | apply pw_below_drewN | apply below_drew1 | refine below_set ?_ GE305.out | refine below_set ?_ GE307.out | refine below_set ?_ (IsS53.ge HI306.out)) | exact HB.out | exact Below.refl _ _)); rintro e w46 ⟨rfl, hi, hb, hk⟩; refine ⟨_, rfl, ?_⟩; have n0_ := Ext.a (Kd.R_mono (Kd.R_keep (IsS53.apart (show IsS53 w _ gb306 l0 t311 t312 from by repeat (first | (with_reducible first | exact HI306.out | apply IsS53.alloc | apply IsS53.drewN | apply IsS53.drew | apply IsS53.set_1 | apply IsS53.set_2 | refine IsS53.far ?_ NB306_305.out _ | refine IsS53.far ?_ NB306_307.out _) | exact HI306.out)) (Ext.nR HO_308000.out) (by decide)) hk (fun _ h => h.2)) (fun _ h => h.1)); have n1_ := Ext.a (KeepBut.blk hk BK305.out NB305_306.out (by simp)); have n2_ := Ext.a (KeepBut.blk hk BK307.out NB307_306.out (by simp)); have n3_ := Ext.a (hb); have n4_ := Ext.a (hi); clear HO_308000 BK305 BK307 HB HI306; have HO_308000 := n0_; have BK305 := n1_; have BK307 := n2_; have HB := n3_; have HI306 := n4_; clear n0_ n1_ n2_ n3_ n4_; (try clear hb); (try clear hb2); (try clear hk); (try clear hi); have hnb47 := NB307_305.out; have hnc47 := NB305_307.out; have hnb48 := NB307_306.out; have hnc48 := NB306_307.out; have hcz49_0 : w46.cell? ⟨gb307, 0, none⟩ = some (.slice Ao15 t308.length co15) := (blk_cell BK307.out 0).trans rfl; have hcz49_1 : w46.cell? ⟨gb307, 1, none⟩ = some (.slice none 0 0) := (blk_cell BK307.out 1).trans rfl; have hcz49_2 : w46.cell? ⟨gb307, 2, none⟩ = some (.int .i64 0) := (blk_cell BK307.out 2).trans rfl; have hcz49_3 : w46.cell? ⟨gb307, 3, none⟩ = some (.int .i64 0) := (blk_cell BK307.out 3).trans rfl; have hcz49_4 : w46.cell? ⟨gb307, 4, none⟩ = some (.int .i64 0) := (blk_cell BK307.out 4).trans rfl; have hcz49_5 : w46.cell? ⟨gb307, 5, none⟩ = some (.int .i64 0) := (blk_cell BK307.out 5).trans rfl; have hfz49_0 := blk_frozen BK307.out 0; have hfz49_1 := blk_frozen BK307.out 1; have hfz49_2 := blk_frozen BK307.out 2; have hfz49_3 := blk_frozen BK307.out 3; have hfz49_4 := blk_frozen BK307.out 4; have hfz49_5 := blk_frozen BK307.out 5) | ((with_reducible refine gate_callee (f := 35) rfl ?_); refine goesL_ (some 47) rfl rfl Try.func35 (by kernel_rfl) rfl #[.pointer (some ⟨gb306, 0, none⟩), .int .i64 8] rfl (by (try simp only [List.map_toArray, List.map_cons, List.map_nil]); first | done | rfl | (simp only [List.length_drop, List.length_take]; rfl)) ?_; (with_reducible refine (terrierref01_Reader_Num.calls kj7 gb306 l0 t319 t320 8 t321 t322 t323 w _ ?side1 ?side2 A41.out).mono ?_); (case side1 => repeat (first | (with_reducible first | exact HI306.out | apply IsS53.alloc | apply IsS53.drewN | apply IsS53.drew | apply IsS53.set_1 | apply IsS53.set_2 | refine IsS53.far ?_ NB306_305.out _ | refine IsS53.far ?_ NB306_307.out _) | exact HI306.out)); (case side2 => repeat (first | (with_reducible first | exact HB.out | apply below_alloc | apply pw_below_drewN | apply below_drew1 | refine below_set ?_ GE305.out | refine below_set ?_ GE307.out | refine below_set ?_ (IsS53.ge HI306.out)) | exact HB.out | exact Below.refl _ _)); rintro e w50 ⟨rfl, hi, hb, hk⟩; refine ⟨_, rfl, ?_⟩; have n0_ := Ext.a (Kd.R_mono (Kd.R_keep (IsS53.apart (show IsS53 w _ gb306 l0 t319 t320 from by repeat (first | (with_reducible first | exact HI306.out | apply IsS53.alloc | apply IsS53.drewN | apply IsS53.drew | apply IsS53.set_1 | apply IsS53.set_2 | refine IsS53.far ?_ NB306_305.out _ | refine IsS53.far ?_ NB306_307.out _) | exact HI306.out)) (Ext.nR ((Kd.R_mono (Kd.R_far (p := ⟨gb307, 2, none⟩) (Kd.R_types HO_308000.out BK307.out (by decide)) (fun _ hk => hk.2) (.int .i64 (wrap64 (t318)))) (fun _ h_ => h_.1)))) (by decide)) hk (fun _ h => h.2)) (fun _ h => h.1)); have n1_ := Ext.a (KeepBut.blk hk (g' := gb305) (o := .cells #[.slice none 0 0, .slice none 0 0, .int .i64 x306002_7, .int .i64 x306003_7, .int .i64 x306004_7, .int .i64 x306005_7] 24 (0, 0)) (by refine blk_far ?_ NB305_307.out _; exact BK305.out) NB305_306.out (by simp)); have n2_ := Ext.a (KeepBut.blk hk (g' := gb307) (o := .cells #[.slice Ao15 t308.length co15, .slice none 0 0, .int .i64 (wrap64 (t318)), .int .i64 0, .int .i64 0, .int .i64 0] 24 (0, 0)) (by refine blk_put (cs := #[.slice Ao15 t308.length co15, .slice none 0 0, .int .i64 0, .int .i64 0, .int .i64 0, .int .i64 0]) ?_ 2 _ rfl; exact BK307.out) NB307_306.out (by simp)); have n3_ := Ext.a (hb); have n4_ := Ext.a (hi); clear HO_308000 BK305 BK307 HB HI306; have HO_308000 := n0_; have BK305 := n1_; have BK307 := n2_; have HB := n3_; have HI306 := n4_; clear n0_ n1_ n2_ n3_ n4_; (try clear hb); (try clear hb2); (try clear hk); (try clear hi); have hcz51_0 : w50.cell? ⟨gb307, 0, none⟩ = some (.slice Ao15 t308.length co15) := (blk_cell BK307.out 0).trans rfl; have hcz51_1 : w50.cell? ⟨gb307, 1, none⟩ = some (.slice none 0 0) := (blk_cell BK307.out 1).trans rfl; have hcz51_2 : w50.cell? ⟨gb307, 2, none⟩ = some (.int .i64 (wrap64 (t318))) := (blk_cell BK307.out 2).trans rfl; have hcz51_3 : w50.cell? ⟨gb307, 3, none⟩ = some (.int .i64 0) := (blk_cell BK307.out 3).trans rfl; have hcz51_4 : w50.cell? ⟨gb307, 4, none⟩ = some (.int .i64 0) := (blk_cell BK307.out 4).trans rfl; have hcz51_5 : w50.cell? ⟨gb307, 5, none⟩ = some (.int .i64 0) := (blk_cell BK307.out 5).trans rfl; have hfz51_0 := blk_frozen BK307.out 0; have hfz51_1 := blk_frozen BK307.out 1; have hfz51_2 := blk_frozen BK307.out 2; have hfz51_3 := blk_frozen BK307.out 3; have hfz51_4 := blk_frozen BK307.out 4; have hfz51_5 := blk_frozen BK307.out 5) | ((with_reducible refine gate_callee (f := 35) rfl ?_); refine goesL_ (some 51) rfl rfl Try.func35 (by kernel_rfl) rfl #[.pointer (some ⟨gb306, 0, none⟩), .int .i64 8] rfl (by (try simp only [List.map_toArray, List.map_cons, List.map_nil]); first | done | rfl | (simp only [List.length_drop, List.length_take]; rfl)) ?_; (with_reducible refine (terrierref01_Reader_Num.calls kj7 gb306 l0 t322 t323 8 t324 t325 t326 w _ ?side1 ?side2 A42.out).mono ?_); (case side1 => repeat (first | (with_reducible first | exact HI306.out | apply IsS53.alloc | apply IsS53.drewN | apply IsS53.drew | apply IsS53.set_1 | apply IsS53.set_2 | refine IsS53.far ?_ NB306_305.out _ | refine IsS53.far ?_ NB306_307.out _) | exact HI306.out)); (case side2 => repeat (first | (with_reducible first | exact HB.out | apply below_alloc | apply pw_below_drewN | apply below_drew1 | refine below_set ?_ GE305.out | refine below_set ?_ GE307.out | refine below_set ?_ (IsS53.ge HI306.out)) | exact HB.out | exact Below.refl _ _)); rintro e w52 ⟨rfl, hi, hb, hk⟩; refine ⟨_, rfl, ?_⟩; have n0_ := Ext.a (Kd.R_mono (Kd.R_keep (IsS53.apart (show IsS53 w _ gb306 l0 t322 t323 from by repeat (first | (with_reducible first | exact HI306.out | apply IsS53.alloc | apply IsS53.drewN | apply IsS53.drew | apply IsS53.set_1 | apply IsS53.set_2 | refine IsS53.far ?_ NB306_305.out _ | refine IsS53.far ?_ NB306_307.out _) | exact HI306.out)) (Ext.nR ((Kd.R_mono (Kd.R_far (p := ⟨gb307, 3, none⟩) (Kd.R_types HO_308000.out BK307.out (by decide)) (fun _ hk => hk.2) (.int .i64 (wrap64 (t321)))) (fun _ h_ => h_.1)))) (by decide)) hk (fun _ h => h.2)) (fun _ h => h.1)); have n1_ := Ext.a (KeepBut.blk hk (g' := gb305) (o := .cells #[.slice none 0 0, .slice none 0 0, .int .i64 x306002_7, .int .i64 x306003_7, .int .i64 x306004_7, .int .i64 x306005_7] 24 (0, 0)) (by refine blk_far ?_ NB305_307.out _; exact BK305.out) NB305_306.out (by simp)); have n2_ := Ext.a (KeepBut.blk hk (g' := gb307) (o := .cells #[.slice Ao15 t308.length co15, .slice none 0 0, .int .i64 (wrap64 (t318)), .int .i64 (wrap64 (t321)), .int .i64 0, .int .i64 0] 24 (0, 0)) (by refine blk_put (cs := #[.slice Ao15 t308.length co15, .slice none 0 0, .int .i64 (wrap64 (t318)), .int .i64 0, .int .i64 0, .int .i64 0]) ?_ 3 _ rfl; exact BK307.out) NB307_306.out (by simp)); have n3_ := Ext.a (hb); have n4_ := Ext.a (hi); clear HO_308000 BK305 BK307 HB HI306; have HO_308000 := n0_; have BK305 := n1_; have BK307 := n2_; have HB := n3_; have HI306 := n4_; clear n0_ n1_ n2_ n3_ n4_; (try clear hb); (try clear hb2); (try clear hk); (try clear hi); have hcz53_0 : w52.cell? ⟨gb307, 0, none⟩ = some (.slice Ao15 t308.length co15) := (blk_cell BK307.out 0).trans rfl; have hcz53_1 : w52.cell? ⟨gb307, 1, none⟩ = some (.slice none 0 0) := (blk_cell BK307.out 1).trans rfl; have hcz53_2 : w52.cell? ⟨gb307, 2, none⟩ = some (.int .i64 (wrap64 (t318))) := (blk_cell BK307.out 2).trans rfl; have hcz53_3 : w52.cell? ⟨gb307, 3, none⟩ = some (.int .i64 (wrap64 (t321))) := (blk_cell BK307.out 3).trans rfl; have hcz53_4 : w52.cell? ⟨gb307, 4, none⟩ = some (.int .i64 0) := (blk_cell BK307.out 4).trans rfl; have hcz53_5 : w52.cell? ⟨gb307, 5, none⟩ = some (.int .i64 0) := (blk_cell BK307.out 5).trans rfl; have hfz53_0 := blk_frozen BK307.out 0; have hfz53_1 := blk_frozen BK307.out 1; have hfz53_2 := blk_frozen BK307.out 2; have hfz53_3 := blk_frozen BK307.out 3; have hfz53_4 := blk_frozen BK307.out 4; have hfz53_5 := blk_frozen BK307.out 5) | ((with_reducible refine gate_callee (f := 35) rfl ?_); refine goesL_ (some 55) rfl rfl Try.func35 (by kernel_rfl) rfl #[.pointer (some ⟨gb306, 0, none⟩), .int .i64 8] rfl (by (try simp only [List.map_toArray, List.map_cons, List.map_nil]); first | done | rfl | (simp only [List.length_drop, List.length_take]; rfl)) ?_; (with_reducible refine (terrierref01_Reader_Num.calls kj7 gb306 l0 t325 t326 8 t327 t328 t329 w _ ?side1 ?side2 A43.out).mono ?_); (case side1 => repeat (first | (with_reducible first | exact HI306.out | apply IsS53.alloc | apply IsS53.drewN | apply IsS53.drew | apply IsS53.set_1 | apply IsS53.set_2 | refine IsS53.far ?_ NB306_305.out _ | refine IsS53.far ?_ NB306_307.out _) | exact HI306.out)); (case side2 => repeat (first | (with_reducible first | exact HB.out | apply below_alloc | apply pw_below_drewN | apply below_drew1 | refine below_set ?_ GE305.out | refine below_set ?_ GE307.out | refine below_set ?_ (IsS53.ge HI306.out)) | exact HB.out | exact Below.refl _ _)); rintro e w54 ⟨rfl, hi, hb, hk⟩; refine ⟨_, rfl, ?_⟩; have n0_ := Ext.a (Kd.R_mono (Kd.R_keep (IsS53.apart (show IsS53 w _ gb306 l0 t325 t326 from by repeat (first | (with_reducible first | exact HI306.out | apply IsS53.alloc | apply IsS53.drewN | apply IsS53.drew | apply IsS53.set_1 | apply IsS53.set_2 | refine IsS53.far ?_ NB306_305.out _ | refine IsS53.far ?_ NB306_307.out _) | exact HI306.out)) (Ext.nR ((Kd.R_mono (Kd.R_far (p := ⟨gb307, 4, none⟩) (Kd.R_types HO_308000.out BK307.out (by decide)) (fun _ hk => hk.2) (.int .i64 (wrap64 (t324)))) (fun _ h_ => h_.1)))) (by decide)) hk (fun _ h => h.2)) (fun _ h => h.1)); have n1_ := Ext.a (KeepBut.blk hk (g' := gb305) (o := .cells #[.slice none 0 0, .slice none 0 0, .int .i64 x306002_7, .int .i64 x306003_7, .int .i64 x306004_7, .int .i64 x306005_7] 24 (0, 0)) (by refine blk_far ?_ NB305_307.out _; exact BK305.out) NB305_306.out (by simp)); have n2_ := Ext.a (KeepBut.blk hk (g' := gb307) (o := .cells #[.slice Ao15 t308.length co15, .slice none 0 0, .int .i64 (wrap64 (t318)), .int .i64 (wrap64 (t321)), .int .i64 (wrap64 (t324)), .int .i64 0] 24 (0, 0)) (by refine blk_put (cs := #[.slice Ao15 t308.length co15, .slice none 0 0, .int .i64 (wrap64 (t318)), .int .i64 (wrap64 (t321)), .int .i64 0, .int .i64 0]) ?_ 4 _ rfl; exact BK307.out) NB307_306.out (by simp)); have n3_ := Ext.a (hb); have n4_ := Ext.a (hi); clear HO_308000 BK305 BK307 HB HI306; have HO_308000 := n0_; have BK305 := n1_; have BK307 := n2_; have HB := n3_; have HI306 := n4_; clear n0_ n1_ n2_ n3_ n4_; (try clear hb); (try clear hb2); (try clear hk); (try clear hi); have hcz55_0 : w54.cell? ⟨gb307, 0, none⟩ = some (.slice Ao15 t308.length co15) := (blk_cell BK307.out 0).trans rfl; have hcz55_1 : w54.cell? ⟨gb307, 1, none⟩ = some (.slice none 0 0) := (blk_cell BK307.out 1).trans rfl; have hcz55_2 : w54.cell? ⟨gb307, 2, none⟩ = some (.int .i64 (wrap64 (t318))) := (blk_cell BK307.out 2).trans rfl; have hcz55_3 : w54.cell? ⟨gb307, 3, none⟩ = some (.int .i64 (wrap64 (t321))) := (blk_cell BK307.out 3).trans rfl; have hcz55_4 : w54.cell? ⟨gb307, 4, none⟩ = some (.int .i64 (wrap64 (t324))) := (blk_cell BK307.out 4).trans rfl; have hcz55_5 : w54.cell? ⟨gb307, 5, none⟩ = some (.int .i64 0) := (blk_cell BK307.out 5).trans rfl; have hfz55_0 := blk_frozen BK307.out 0; have hfz55_1 := blk_frozen BK307.out 1; have hfz55_2 := blk_frozen BK307.out 2; have hfz55_3 := blk_frozen BK307.out 3; have hfz55_4 := blk_frozen BK307.out 4; have hfz55_5 := blk_frozen BK307.out 5) | ((with_reducible refine gate_callee (f := 34) rfl ?_); refine goesL_ (some 59) rfl rfl Try.func34 (by kernel_rfl) rfl #[.pointer (some ⟨gb306, 0, none⟩), .int .i64 1024] rfl (by (try simp only [List.map_toArray, List.map_cons, List.map_nil]); first | done | rfl | (simp only [List.length_drop, List.length_take]; rfl)) ?_; (with_reducible refine (terrierref01_Reader_Text.calls kj7 gb306 l0 t328 t329 1024 t330 t333 t334 w _ ?side1 ?side2 A44.out).mono ?_); (case side1 => repeat (first | (with_reducible first | exact HI306.out | apply IsS53.alloc | apply IsS53.drewN | apply IsS53.drew | apply IsS53.set_1 | apply IsS53.set_2 | refine IsS53.far ?_ NB306_305.out _ | refine IsS53.far ?_ NB306_307.out _) | exact HI306.out)); (case side2 => repeat (first | (with_reducible first | exact HB.out | apply below_alloc | apply pw_below_drewN | apply below_drew1 | refine below_set ?_ GE305.out | refine below_set ?_ GE307.out | refine below_set ?_ (IsS53.ge HI306.out)) | exact HB.out | exact Below.refl _ _)); rintro e w56 ⟨v331, rfl, ho0, hi, hb, hk⟩; refine ⟨_, rfl, ?_⟩; have n0_ := Ext.a (Kd.R_mono (Kd.R_told (Kd.R_oldK (IsS53.apart (show IsS53 w _ gb306 l0 t328 t329 from by repeat (first | (with_reducible first | exact HI306.out | apply IsS53.alloc | apply IsS53.drewN | apply IsS53.drew | apply IsS53.set_1 | apply IsS53.set_2 | refine IsS53.far ?_ NB306_305.out _ | refine IsS53.far ?_ NB306_307.out _) | exact HI306.out)) (Ext.nR ((Kd.R_mono (Kd.R_far (p := ⟨gb307, 5, none⟩) (Kd.R_types HO_308000.out BK307.out (by decide)) (fun _ hk => hk.2) (.int .i64 (wrap64 (t327)))) (fun _ h_ => h_.1)))) (by decide)) hk) (Kd.R_base ho0)) (fun _ h_ => h_.1)); have n1_ := Ext.a (KeepBut.blk hk (g' := gb305) (o := .cells #[.slice none 0 0, .slice none 0 0, .int .i64 x306002_7, .int .i64 x306003_7, .int .i64 x306004_7, .int .i64 x306005_7] 24 (0, 0)) (by refine blk_far ?_ NB305_307.out _; exact BK305.out) NB305_306.out (by simp)); have n2_ := Ext.a (KeepBut.blk hk (g' := gb307) (o := .cells #[.slice Ao15 t308.length co15, .slice none 0 0, .int .i64 (wrap64 (t318)), .int .i64 (wrap64 (t321)), .int .i64 (wrap64 (t324)), .int .i64 (wrap64 (t327))] 24 (0, 0)) (by refine blk_put (cs := #[.slice Ao15 t308.length co15, .slice none 0 0, .int .i64 (wrap64 (t318)), .int .i64 (wrap64 (t321)), .int .i64 (wrap64 (t324)), .int .i64 0]) ?_ 5 _ rfl; exact BK307.out) NB307_306.out (by simp)); have n3_ := Ext.a (Kd.R_lower (Kd.R_new' ho0 (Kd.R_lt (Ext.nR ((Kd.R_mono (Kd.R_far (p := ⟨gb307, 5, none⟩) (Kd.R_types HO_308000.out BK307.out (by decide)) (fun _ hk => hk.2) (.int .i64 (wrap64 (t327)))) (fun _ h_ => h_.1)))))) (below_size (by repeat (first | (with_reducible first | exact HB.out | apply below_alloc | apply pw_below_drewN | apply below_drew1 | refine below_set ?_ GE305.out | refine below_set ?_ GE307.out | refine below_set ?_ (IsS53.ge HI306.out)) | exact HB.out | exact Below.refl _ _)))); have n4_ := Ext.a (hb); have n5_ := Ext.a (hi); clear HO_308000 BK305 BK307 HB HI306; have HO_308000 := n0_; have BK305 := n1_; have BK307 := n2_; have HO332 := n3_; have HB := n4_; have HI306 := n5_; clear n0_ n1_ n2_ n3_ n4_ n5_; (try clear hb); (try clear hb2); (try clear hk); (try clear hi); (try clear ho0); obtain ⟨Ao57, co57, eo57⟩ := Kd.R_slice HO332.out; subst eo57; have hcz58_0 : w56.cell? ⟨gb307, 0, none⟩ = some (.slice Ao15 t308.length co15) := (blk_cell BK307.out 0).trans rfl; have hcz58_1 : w56.cell? ⟨gb307, 1, none⟩ = some (.slice none 0 0) := (blk_cell BK307.out 1).trans rfl; have hcz58_2 : w56.cell? ⟨gb307, 2, none⟩ = some (.int .i64 (wrap64 (t318))) := (blk_cell BK307.out 2).trans rfl; have hcz58_3 : w56.cell? ⟨gb307, 3, none⟩ = some (.int .i64 (wrap64 (t321))) := (blk_cell BK307.out 3).trans rfl; have hcz58_4 : w56.cell? ⟨gb307, 4, none⟩ = some (.int .i64 (wrap64 (t324))) := (blk_cell BK307.out 4).trans rfl; have hcz58_5 : w56.cell? ⟨gb307, 5, none⟩ = some (.int .i64 (wrap64 (t327))) := (blk_cell BK307.out 5).trans rfl; have hfz58_0 := blk_frozen BK307.out 0; have hfz58_1 := blk_frozen BK307.out 1; have hfz58_2 := blk_frozen BK307.out 2; have hfz58_3 := blk_frozen BK307.out 3; have hfz58_4 := blk_frozen BK307.out 4; have hfz58_5 := blk_frozen BK307.out 5))
      (try simp only [Act.put, Ext.sb, Ext.sz, Ext.ss])
      go_cut [77] (fun v77 wc => ∃ (kq : Nat) (x77_44 : Bool), v77 = .bool x77_44 ∧ Aside0 (terrierref13_Decode.j3 kq x77_44 t308 t330 (wrap64 (t318)) (wrap64 (t321)) (wrap64 (t324)) (wrap64 (t327)) = some (r1, r2, r3, r4, r5, r6, r7, r8)) ∧ Aside0 (kq ≤ kj7) ∧ Aside0 (Kd.R (Kd.int .u8) 5 wc w.heap.size (fun k_ => some k_ ≠ ((.slice Ao57 t330.length co57) : Value).ownBlock) (.slice Ao15 t308.length co15) t308) ∧ Aside0 (Kd.R (Kd.int .u8) 5 wc w.heap.size (fun k_ => some k_ ≠ ((.slice Ao15 t308.length co15) : Value).ownBlock) (.slice Ao57 t330.length co57) t330) ∧ Aside0 (wc.heap[gb305]? = some (.cells #[(.slice none 0 0), (.slice none 0 0), .int .i64 x306002_7, .int .i64 x306003_7, .int .i64 x306004_7, .int .i64 x306005_7] 24 (0, 0))) ∧ Aside0 (wc.heap[gb307]? = some (.cells #[(.slice Ao15 t308.length co15), (.slice Ao57 t330.length co57), .int .i64 (wrap64 (t318)), .int .i64 (wrap64 (t321)), .int .i64 (wrap64 (t324)), .int .i64 (wrap64 (t327))] 24 (0, 0))) ∧ Aside0 (Below w.heap.size w wc))
      case first =>
       have H := HC45.out
       clear HC45
       by_cases c59 : t334 = 0
       ·
        rw [if_pos c59] at H
        have c59b0 : (t334 == 0) = true := beq_iff_eq.mpr c59
        have c59b1 : (t334 != 0) = false := bne_eq_false_iff_eq.mpr c59
        clear c59
        (first | rw [c59b0] | (simp only [i64_w, i32_w]; rw [c59b0]) | skip)
        replace H := Option.bind_eq_some_iff.mp H
        obtain ⟨t335, A600, H⟩ := H
        replace H : (if t335 = true then ((terrierref13_Encode.f kj7 t308 t330 (wrap64 (t318)) (wrap64 (t321)) (wrap64 (t324)) (wrap64 (t327))).bind fun t336 => ((terrierref01_Same.f t336 l0).bind fun t339 => (terrierref13_Decode.j3 kj7 (!t339) t308 t330 (wrap64 (t318)) (wrap64 (t321)) (wrap64 (t324)) (wrap64 (t327))))) else (terrierref13_Decode.j3 kj7 true t308 t330 (wrap64 (t318)) (wrap64 (t321)) (wrap64 (t324)) (wrap64 (t327)))) = some (r1, r2, r3, r4, r5, r6, r7, r8) := H
        have A60 := Aside0.mk A600
        clear A600
        by_cases c61 : t335 = true
        ·
         subst c61
         have H1 : ((terrierref13_Encode.f kj7 t308 t330 (wrap64 (t318)) (wrap64 (t321)) (wrap64 (t324)) (wrap64 (t327))).bind fun t336 => ((terrierref01_Same.f t336 l0).bind fun t339 => (terrierref13_Decode.j3 kj7 (!t339) t308 t330 (wrap64 (t318)) (wrap64 (t321)) (wrap64 (t324)) (wrap64 (t327))))) = some (r1, r2, r3, r4, r5, r6, r7, r8) := by rw [if_pos rfl] at H; exact H
         clear H
         have H := H1
         clear H1
         replace H := Option.bind_eq_some_iff.mp H
         obtain ⟨t336, A620, H⟩ := H
         replace H : ((terrierref01_Same.f t336 l0).bind fun t339 => (terrierref13_Decode.j3 kj7 (!t339) t308 t330 (wrap64 (t318)) (wrap64 (t321)) (wrap64 (t324)) (wrap64 (t327)))) = some (r1, r2, r3, r4, r5, r6, r7, r8) := H
         have A62 := Aside0.mk A620
         clear A620
         replace H := Option.bind_eq_some_iff.mp H
         obtain ⟨t339, A630, H⟩ := H
         replace H : (terrierref13_Decode.j3 kj7 (!t339) t308 t330 (wrap64 (t318)) (wrap64 (t321)) (wrap64 (t324)) (wrap64 (t327))) = some (r1, r2, r3, r4, r5, r6, r7, r8) := H
         have A63 := Aside0.mk A630
         clear A630
         have H' := Aside0.mk H
         clear H
         obtain ⟨ASz64_0, cSz64_0, HGz64, hgz64, HSz64_0⟩ := HI306.out
         have hcz64_0 := cellS53_0 HGz64
         have hcz64_1 := cellS53_1 HGz64
         have hcz64_2 := cellS53_2 HGz64
         have hfz64_1 := blk_frozen HGz64 1
         have hfz64_2 := blk_frozen HGz64 2
         clear HGz64 hgz64
         have hnb65 := NB307_305.out
         have hnc65 := NB305_307.out
         have hnb66 := NB307_306.out
         have hnc66 := NB306_307.out
         have hcz67_0 : w56.cell? ⟨gb307, 0, none⟩ = some (.slice Ao15 t308.length co15) := (blk_cell BK307.out 0).trans rfl
         have hcz67_1 : w56.cell? ⟨gb307, 1, none⟩ = some (.slice none 0 0) := (blk_cell BK307.out 1).trans rfl
         have hcz67_2 : w56.cell? ⟨gb307, 2, none⟩ = some (.int .i64 (wrap64 (t318))) := (blk_cell BK307.out 2).trans rfl
         have hcz67_3 : w56.cell? ⟨gb307, 3, none⟩ = some (.int .i64 (wrap64 (t321))) := (blk_cell BK307.out 3).trans rfl
         have hcz67_4 : w56.cell? ⟨gb307, 4, none⟩ = some (.int .i64 (wrap64 (t324))) := (blk_cell BK307.out 4).trans rfl
         have hcz67_5 : w56.cell? ⟨gb307, 5, none⟩ = some (.int .i64 (wrap64 (t327))) := (blk_cell BK307.out 5).trans rfl
         have hfz67_0 := blk_frozen BK307.out 0
         have hfz67_1 := blk_frozen BK307.out 1
         have hfz67_2 := blk_frozen BK307.out 2
         have hfz67_3 := blk_frozen BK307.out 3
         have hfz67_4 := blk_frozen BK307.out 4
         have hfz67_5 := blk_frozen BK307.out 5
         go_wp2_with (first | (go_at_call 12; (with_reducible refine (terrierref13_Right.calls _ _ t308 _ _ t330 (wrap64 (t318)) (wrap64 (t321)) (wrap64 (t324)) (wrap64 (t327)) true _ ?side1 ?side2 ?side3 ?side4 A60.out).mono ?_); (case side1 => refine (Kd.R_reads' (e := 5) (base := w.heap.size) (ok := fun k_ => (True ∧ some k_ ≠ (.slice Ao57 t330.length co57 : Value).ownBlock)) (n := t308.length) (c := co15) ?_).2.2; exact (Ext.nR ((Kd.R_mono (Kd.R_far (p := ⟨gb307, 1, none⟩) (Kd.R_types HO_308000.out BK307.out (by decide)) (fun _ hk => hk.2) (.slice Ao57 t330.length co57)) (fun _ h_ => h_.1))))); (case side2 => exact (Kd.R_reads' HO_308000.out).2.1); (case side3 => refine (Kd.R_reads' (e := 5) (base := w.heap.size) (ok := fun k_ => (True ∧ some k_ ≠ (.slice Ao15 t308.length co15 : Value).ownBlock)) (n := t330.length) (c := co57) ?_).2.2; exact (Ext.nR ((Kd.R_mono (Kd.R_far (p := ⟨gb307, 1, none⟩) (Kd.R_types HO332.out BK307.out (by decide)) (fun _ hk => hk.2) (.slice Ao57 t330.length co57)) (fun _ h_ => h_.1))))); (case side4 => exact (Kd.R_reads' HO332.out).2.1); rintro e w68 ⟨rfl, hb⟩; have n0_ := Ext.a (Kd.R_below (Ext.nR ((Kd.R_mono (Kd.R_far (p := ⟨gb307, 1, none⟩) (Kd.R_types HO_308000.out BK307.out (by decide)) (fun _ hk => hk.2) (.slice Ao57 t330.length co57)) (fun _ h_ => h_.1)))) hb); have n1_ := Ext.a (Kd.R_below (Ext.nR ((Kd.R_mono (Kd.R_far (p := ⟨gb307, 1, none⟩) (Kd.R_types HO332.out BK307.out (by decide)) (fun _ hk => hk.2) (.slice Ao57 t330.length co57)) (fun _ h_ => h_.1)))) hb); have n2_ := Ext.a (blk_below (g := gb305) (o := .cells #[.slice none 0 0, .slice none 0 0, .int .i64 x306002_7, .int .i64 x306003_7, .int .i64 x306004_7, .int .i64 x306005_7] 24 (0, 0)) (by refine blk_far ?_ NB305_307.out _; exact BK305.out) hb); have n3_ := Ext.a (blk_below (g := gb307) (o := .cells #[.slice Ao15 t308.length co15, .slice Ao57 t330.length co57, .int .i64 (wrap64 (t318)), .int .i64 (wrap64 (t321)), .int .i64 (wrap64 (t324)), .int .i64 (wrap64 (t327))] 24 (0, 0)) (by refine blk_put (cs := #[.slice Ao15 t308.length co15, .slice none 0 0, .int .i64 (wrap64 (t318)), .int .i64 (wrap64 (t321)), .int .i64 (wrap64 (t324)), .int .i64 (wrap64 (t327))]) ?_ 1 _ rfl; exact BK307.out) hb); have n4_ := Ext.a (IsS53.below (show IsS53 w (w56.setCell ⟨gb307, 1, none⟩ (.slice Ao57 t330.length co57)) gb306 l0 t333 t334 from by repeat (first | (with_reducible first | exact HI306.out | apply IsS53.alloc | apply IsS53.drewN | apply IsS53.drew | apply IsS53.set_1 | apply IsS53.set_2 | refine IsS53.far ?_ NB306_305.out _ | refine IsS53.far ?_ NB306_307.out _) | exact HI306.out)) hb); have n5_ := Ext.a (below_step (by repeat (first | (with_reducible first | exact HB.out | apply below_alloc | apply pw_below_drewN | apply below_drew1 | refine below_set ?_ GE305.out | refine below_set ?_ GE307.out | refine below_set ?_ (IsS53.ge HI306.out)) | exact HB.out | exact Below.refl _ _)) hb); clear HO_308000 HO332 BK305 BK307 HI306 HB; have HO_308000 := n0_; have HO332 := n1_; have BK305 := n2_; have BK307 := n3_; have HI306 := n4_; have HB := n5_; clear n0_ n1_ n2_ n3_ n4_ n5_; (try clear hb); (try clear hb2); (try clear hk); (try clear hi); have hcz69_0 : w68.cell? ⟨gb307, 0, none⟩ = some (.slice Ao15 t308.length co15) := (blk_cell BK307.out 0).trans rfl; have hcz69_1 : w68.cell? ⟨gb307, 1, none⟩ = some (.slice Ao57 t330.length co57) := (blk_cell BK307.out 1).trans rfl; have hcz69_2 : w68.cell? ⟨gb307, 2, none⟩ = some (.int .i64 (wrap64 (t318))) := (blk_cell BK307.out 2).trans rfl; have hcz69_3 : w68.cell? ⟨gb307, 3, none⟩ = some (.int .i64 (wrap64 (t321))) := (blk_cell BK307.out 3).trans rfl; have hcz69_4 : w68.cell? ⟨gb307, 4, none⟩ = some (.int .i64 (wrap64 (t324))) := (blk_cell BK307.out 4).trans rfl; have hcz69_5 : w68.cell? ⟨gb307, 5, none⟩ = some (.int .i64 (wrap64 (t327))) := (blk_cell BK307.out 5).trans rfl; have hfz69_0 := blk_frozen BK307.out 0; have hfz69_1 := blk_frozen BK307.out 1; have hfz69_2 := blk_frozen BK307.out 2; have hfz69_3 := blk_frozen BK307.out 3; have hfz69_4 := blk_frozen BK307.out 4; have hfz69_5 := blk_frozen BK307.out 5) | (go_at_call 16; (with_reducible refine (terrierref13_Encode.calls kj7 _ _ t308 _ _ t330 (wrap64 (t318)) (wrap64 (t321)) (wrap64 (t324)) (wrap64 (t327)) t336 _ ?side1 ?side2 ?side3 ?side4 A62.out).mono ?_); (case side1 => exact Ext.nC (Kd.R_reads' HO_308000.out).2.2); (case side2 => exact (Kd.R_reads' HO_308000.out).2.1); (case side3 => exact Ext.nC (Kd.R_reads' HO332.out).2.2); (case side4 => exact (Kd.R_reads' HO332.out).2.1); rintro e w70 ⟨v337, rfl, ho0, hb⟩; have n0_ := Ext.a (Kd.R_elder' (Ext.nR HO_308000.out) (Kd.R_base ho0) hb); have n1_ := Ext.a (Kd.R_elder' (Ext.nR HO332.out) (Kd.R_base ho0) hb); have n2_ := Ext.a (Kd.R_lower (Kd.R_new' (Kd.R_new' ho0 (Kd.R_lt (Ext.nR HO_308000.out))) (Kd.R_lt (Ext.nR HO332.out))) (below_size (by repeat (first | (with_reducible first | exact HB.out | apply below_alloc | apply pw_below_drewN | apply below_drew1 | refine below_set ?_ GE305.out | refine below_set ?_ GE307.out | refine below_set ?_ (IsS53.ge HI306.out)) | exact HB.out | exact Below.refl _ _)))); have n3_ := Ext.a (blk_below BK305.out hb); have n4_ := Ext.a (blk_below BK307.out hb); have n5_ := Ext.a (IsS53.below (by repeat (first | (with_reducible first | exact HI306.out | apply IsS53.alloc | apply IsS53.drewN | apply IsS53.drew | apply IsS53.set_1 | apply IsS53.set_2 | refine IsS53.far ?_ NB306_305.out _ | refine IsS53.far ?_ NB306_307.out _) | exact HI306.out)) hb); have n6_ := Ext.a (below_step (by repeat (first | (with_reducible first | exact HB.out | apply below_alloc | apply pw_below_drewN | apply below_drew1 | refine below_set ?_ GE305.out | refine below_set ?_ GE307.out | refine below_set ?_ (IsS53.ge HI306.out)) | exact HB.out | exact Below.refl _ _)) hb); clear HO_308000 HO332 BK305 BK307 HI306 HB; have HO_308000 := n0_; have HO332 := n1_; have HO338 := n2_; have BK305 := n3_; have BK307 := n4_; have HI306 := n5_; have HB := n6_; clear n0_ n1_ n2_ n3_ n4_ n5_ n6_; (try clear hb); (try clear hb2); (try clear hk); (try clear hi); (try clear ho0); obtain ⟨Ao71, co71, eo71⟩ := Kd.R_slice HO338.out; subst eo71) | (go_at_call 15; (with_reducible refine (terrierref01_Same.calls _ _ t336 _ _ l0 t339 _ ?side1 ?side2 ?side3 ?side4 A63.out).mono ?_); (case side1 => exact Ext.nC (Kd.R_reads' HO338.out).2.2); (case side2 => exact (Kd.R_reads' HO338.out).2.1); (case side3 => repeat (first | exact (Kd.C_below HR0.out HB.out) | exact HR0.out | (with_reducible refine Kd.C_alloc ?_ _) | (with_reducible refine Kd.C_drewN ?_ _) | (with_reducible refine Kd.C_drew ?_))); (case side4 => exact HC0.out); rintro e w' ⟨rfl, ⟨nd, rfl⟩⟩))
         go_meet
         case rel => exact ⟨_, (!t339), (by first | rfl | (simp; done) | (simp [*]; done)), H', ⟨by have := HJ1.out; have := HJ7.out; first | omega | exact Nat.le_refl _⟩, ⟨by (with_reducible repeat (first | apply Kd.R_alloc | apply Kd.R_drewN | apply Kd.R_drew)); exact Kd.R_mono HO_308000.out (fun _ hk => hk.1.2)⟩, ⟨by (with_reducible repeat (first | apply Kd.R_alloc | apply Kd.R_drewN | apply Kd.R_drew)); exact Kd.R_mono HO332.out (fun _ hk => hk.1.2)⟩, ⟨by (with_reducible repeat (first | refine blk_drewN ?_ _ | refine blk_drew ?_ | refine blk_alloc ?_ _)); exact BK305.out⟩, ⟨by (with_reducible repeat (first | refine blk_drewN ?_ _ | refine blk_drew ?_ | refine blk_alloc ?_ _)); exact BK307.out⟩, ⟨by repeat (first | (with_reducible first | exact HB.out | apply below_alloc | apply pw_below_drewN | apply below_drew1 | refine below_set ?_ GE305.out | refine below_set ?_ GE307.out | refine below_set ?_ (IsS53.ge HI306.out)) | exact HB.out | exact Below.refl _ _)⟩⟩
        ·
         replace c61 := Bool.eq_false_iff.mpr c61
         subst c61
         have H1 : (terrierref13_Decode.j3 kj7 true t308 t330 (wrap64 (t318)) (wrap64 (t321)) (wrap64 (t324)) (wrap64 (t327))) = some (r1, r2, r3, r4, r5, r6, r7, r8) := by rw [if_neg (show ¬ (false = true) by decide)] at H; exact H
         clear H
         have H := H1
         clear H1
         have H' := Aside0.mk H
         clear H
         obtain ⟨ASz72_0, cSz72_0, HGz72, hgz72, HSz72_0⟩ := HI306.out
         have hcz72_0 := cellS53_0 HGz72
         have hcz72_1 := cellS53_1 HGz72
         have hcz72_2 := cellS53_2 HGz72
         have hfz72_1 := blk_frozen HGz72 1
         have hfz72_2 := blk_frozen HGz72 2
         clear HGz72 hgz72
         have hnb73 := NB307_305.out
         have hnc73 := NB305_307.out
         have hnb74 := NB307_306.out
         have hnc74 := NB306_307.out
         have hcz75_0 : w56.cell? ⟨gb307, 0, none⟩ = some (.slice Ao15 t308.length co15) := (blk_cell BK307.out 0).trans rfl
         have hcz75_1 : w56.cell? ⟨gb307, 1, none⟩ = some (.slice none 0 0) := (blk_cell BK307.out 1).trans rfl
         have hcz75_2 : w56.cell? ⟨gb307, 2, none⟩ = some (.int .i64 (wrap64 (t318))) := (blk_cell BK307.out 2).trans rfl
         have hcz75_3 : w56.cell? ⟨gb307, 3, none⟩ = some (.int .i64 (wrap64 (t321))) := (blk_cell BK307.out 3).trans rfl
         have hcz75_4 : w56.cell? ⟨gb307, 4, none⟩ = some (.int .i64 (wrap64 (t324))) := (blk_cell BK307.out 4).trans rfl
         have hcz75_5 : w56.cell? ⟨gb307, 5, none⟩ = some (.int .i64 (wrap64 (t327))) := (blk_cell BK307.out 5).trans rfl
         have hfz75_0 := blk_frozen BK307.out 0
         have hfz75_1 := blk_frozen BK307.out 1
         have hfz75_2 := blk_frozen BK307.out 2
         have hfz75_3 := blk_frozen BK307.out 3
         have hfz75_4 := blk_frozen BK307.out 4
         have hfz75_5 := blk_frozen BK307.out 5
         go_wp2_with (first | (go_at_call 12; (with_reducible refine (terrierref13_Right.calls _ _ t308 _ _ t330 (wrap64 (t318)) (wrap64 (t321)) (wrap64 (t324)) (wrap64 (t327)) false _ ?side1 ?side2 ?side3 ?side4 A60.out).mono ?_); (case side1 => refine (Kd.R_reads' (e := 5) (base := w.heap.size) (ok := fun k_ => (True ∧ some k_ ≠ (.slice Ao57 t330.length co57 : Value).ownBlock)) (n := t308.length) (c := co15) ?_).2.2; exact (Ext.nR ((Kd.R_mono (Kd.R_far (p := ⟨gb307, 1, none⟩) (Kd.R_types HO_308000.out BK307.out (by decide)) (fun _ hk => hk.2) (.slice Ao57 t330.length co57)) (fun _ h_ => h_.1))))); (case side2 => exact (Kd.R_reads' HO_308000.out).2.1); (case side3 => refine (Kd.R_reads' (e := 5) (base := w.heap.size) (ok := fun k_ => (True ∧ some k_ ≠ (.slice Ao15 t308.length co15 : Value).ownBlock)) (n := t330.length) (c := co57) ?_).2.2; exact (Ext.nR ((Kd.R_mono (Kd.R_far (p := ⟨gb307, 1, none⟩) (Kd.R_types HO332.out BK307.out (by decide)) (fun _ hk => hk.2) (.slice Ao57 t330.length co57)) (fun _ h_ => h_.1))))); (case side4 => exact (Kd.R_reads' HO332.out).2.1); rintro e w76 ⟨rfl, hb⟩; have n0_ := Ext.a (Kd.R_below (Ext.nR ((Kd.R_mono (Kd.R_far (p := ⟨gb307, 1, none⟩) (Kd.R_types HO_308000.out BK307.out (by decide)) (fun _ hk => hk.2) (.slice Ao57 t330.length co57)) (fun _ h_ => h_.1)))) hb); have n1_ := Ext.a (Kd.R_below (Ext.nR ((Kd.R_mono (Kd.R_far (p := ⟨gb307, 1, none⟩) (Kd.R_types HO332.out BK307.out (by decide)) (fun _ hk => hk.2) (.slice Ao57 t330.length co57)) (fun _ h_ => h_.1)))) hb); have n2_ := Ext.a (blk_below (g := gb305) (o := .cells #[.slice none 0 0, .slice none 0 0, .int .i64 x306002_7, .int .i64 x306003_7, .int .i64 x306004_7, .int .i64 x306005_7] 24 (0, 0)) (by refine blk_far ?_ NB305_307.out _; exact BK305.out) hb); have n3_ := Ext.a (blk_below (g := gb307) (o := .cells #[.slice Ao15 t308.length co15, .slice Ao57 t330.length co57, .int .i64 (wrap64 (t318)), .int .i64 (wrap64 (t321)), .int .i64 (wrap64 (t324)), .int .i64 (wrap64 (t327))] 24 (0, 0)) (by refine blk_put (cs := #[.slice Ao15 t308.length co15, .slice none 0 0, .int .i64 (wrap64 (t318)), .int .i64 (wrap64 (t321)), .int .i64 (wrap64 (t324)), .int .i64 (wrap64 (t327))]) ?_ 1 _ rfl; exact BK307.out) hb); have n4_ := Ext.a (IsS53.below (show IsS53 w (w56.setCell ⟨gb307, 1, none⟩ (.slice Ao57 t330.length co57)) gb306 l0 t333 t334 from by repeat (first | (with_reducible first | exact HI306.out | apply IsS53.alloc | apply IsS53.drewN | apply IsS53.drew | apply IsS53.set_1 | apply IsS53.set_2 | refine IsS53.far ?_ NB306_305.out _ | refine IsS53.far ?_ NB306_307.out _) | exact HI306.out)) hb); have n5_ := Ext.a (below_step (by repeat (first | (with_reducible first | exact HB.out | apply below_alloc | apply pw_below_drewN | apply below_drew1 | refine below_set ?_ GE305.out | refine below_set ?_ GE307.out | refine below_set ?_ (IsS53.ge HI306.out)) | exact HB.out | exact Below.refl _ _)) hb); clear HO_308000 HO332 BK305 BK307 HI306 HB; have HO_308000 := n0_; have HO332 := n1_; have BK305 := n2_; have BK307 := n3_; have HI306 := n4_; have HB := n5_; clear n0_ n1_ n2_ n3_ n4_ n5_; (try clear hb); (try clear hb2); (try clear hk); (try clear hi)))
         go_meet
         case rel => exact ⟨_, (true), (by first | rfl | (simp; done) | (simp [*]; done)), H', ⟨by have := HJ1.out; have := HJ7.out; first | omega | exact Nat.le_refl _⟩, ⟨by (with_reducible repeat (first | apply Kd.R_alloc | apply Kd.R_drewN | apply Kd.R_drew)); exact Kd.R_mono HO_308000.out (fun _ hk => hk.2)⟩, ⟨by (with_reducible repeat (first | apply Kd.R_alloc | apply Kd.R_drewN | apply Kd.R_drew)); exact Kd.R_mono HO332.out (fun _ hk => hk.2)⟩, ⟨by exact BK305.out⟩, ⟨by exact BK307.out⟩, ⟨by repeat (first | (with_reducible first | exact HB.out | apply below_alloc | apply pw_below_drewN | apply below_drew1 | refine below_set ?_ GE305.out | refine below_set ?_ GE307.out | refine below_set ?_ (IsS53.ge HI306.out)) | exact HB.out | exact Below.refl _ _)⟩⟩
       ·
        rw [if_neg c59] at H
        have c59b0 : (t334 == 0) = false := beq_eq_false_iff_ne.mpr c59
        have c59b1 : (t334 != 0) = true := bne_iff_ne.mpr c59
        (first | rw [c59b0] | (simp only [i64_w, i32_w]; rw [c59b0]) | skip)
        have H' := Aside0.mk H
        clear H
        obtain ⟨ASz77_0, cSz77_0, HGz77, hgz77, HSz77_0⟩ := HI306.out
        have hcz77_0 := cellS53_0 HGz77
        have hcz77_1 := cellS53_1 HGz77
        have hcz77_2 := cellS53_2 HGz77
        have hfz77_1 := blk_frozen HGz77 1
        have hfz77_2 := blk_frozen HGz77 2
        clear HGz77 hgz77
        go_wp2
        go_meet
        case rel => exact ⟨_, (true), (by first | rfl | (simp; done) | (simp [*]; done)), H', ⟨by have := HJ1.out; have := HJ7.out; first | omega | exact Nat.le_refl _⟩, ⟨by (with_reducible repeat (first | apply Kd.R_alloc | apply Kd.R_drewN | apply Kd.R_drew)); exact Kd.R_mono (Kd.R_far (p := ⟨gb307, 1, none⟩) (Kd.R_types HO_308000.out BK307.out (by decide)) (fun _ hk => hk.2) (.slice Ao57 t330.length co57)) (fun _ hk => hk.1.2)⟩, ⟨by (with_reducible repeat (first | apply Kd.R_alloc | apply Kd.R_drewN | apply Kd.R_drew)); exact Kd.R_mono (Kd.R_far (p := ⟨gb307, 1, none⟩) (Kd.R_types HO332.out BK307.out (by decide)) (fun _ hk => hk.2) (.slice Ao57 t330.length co57)) (fun _ hk => hk.1.2)⟩, ⟨by refine blk_far ?_ NB305_307.out _; exact BK305.out⟩, ⟨by refine blk_put (cs := #[.slice Ao15 t308.length co15, .slice none 0 0, .int .i64 (wrap64 (t318)), .int .i64 (wrap64 (t321)), .int .i64 (wrap64 (t324)), .int .i64 (wrap64 (t327))]) ?_ 1 _ rfl; exact BK307.out⟩, ⟨by repeat (first | (with_reducible first | exact HB.out | apply below_alloc | apply pw_below_drewN | apply below_drew1 | refine below_set ?_ GE305.out | refine below_set ?_ GE307.out | refine below_set ?_ (IsS53.ge HI306.out)) | exact HB.out | exact Below.refl _ _)⟩⟩
      case rest =>
       clear HC45
       try clear c1
       try clear c2
       try clear p2
       try clear c3
       try clear p3
       try clear q3
       try clear hx3
       try clear qi3
       try clear c4
       try clear c4b0
       try clear c4b1
       try clear c4b2
       try clear c5
       try clear c6
       try clear p6
       try clear c7
       try clear c7b0
       try clear c7b1
       try clear c11
       try clear c12
       try clear c17
       try clear c17b0
       try clear c17b1
       try clear c19
       try clear c19b0
       try clear c19b1
       try clear c20
       try clear c20b0
       try clear c20b1
       try clear c22
       try clear c24
       try clear c25
       try clear c30
       try clear c31
       try clear p31
       try clear q31
       try clear hx31
       try clear qi31
       try clear c34
       try clear c35
       try clear c38
       try clear c47
       try clear c48
       try clear c59
       try clear c59b0
       try clear c59b1
       try clear c61
       try clear p64
       try clear c65
       try clear c66
       try clear c73
       try clear c74
       try clear hcz13_0
       try clear hcz13_1
       try clear hcz13_2
       try clear hcz13_3
       try clear hcz13_4
       try clear hcz13_5
       try clear hcz16_0
       try clear hcz16_1
       try clear hcz16_2
       try clear hcz16_3
       try clear hcz16_4
       try clear hcz16_5
       try clear hcz23_0
       try clear hcz23_1
       try clear hcz23_2
       try clear hcz26_0
       try clear hcz26_1
       try clear hcz26_2
       try clear hcz26_3
       try clear hcz26_4
       try clear hcz26_5
       try clear hcz29_0
       try clear hcz29_1
       try clear hcz29_2
       try clear hcz32_0
       try clear hcz32_1
       try clear hcz32_2
       try clear hcz32_3
       try clear hcz32_4
       try clear hcz32_5
       try clear hcz33_0
       try clear hcz33_1
       try clear hcz33_2
       try clear hcz36_0
       try clear hcz36_1
       try clear hcz36_2
       try clear hcz36_3
       try clear hcz36_4
       try clear hcz36_5
       try clear hcz37_0
       try clear hcz37_1
       try clear hcz37_2
       try clear hcz37_3
       try clear hcz37_4
       try clear hcz37_5
       try clear hcz39_0
       try clear hcz39_1
       try clear hcz39_2
       try clear hcz39_3
       try clear hcz39_4
       try clear hcz39_5
       try clear hcz49_0
       try clear hcz49_1
       try clear hcz49_2
       try clear hcz49_3
       try clear hcz49_4
       try clear hcz49_5
       try clear hcz51_0
       try clear hcz51_1
       try clear hcz51_2
       try clear hcz51_3
       try clear hcz51_4
       try clear hcz51_5
       try clear hcz53_0
       try clear hcz53_1
       try clear hcz53_2
       try clear hcz53_3
       try clear hcz53_4
       try clear hcz53_5
       try clear hcz55_0
       try clear hcz55_1
       try clear hcz55_2
       try clear hcz55_3
       try clear hcz55_4
       try clear hcz55_5
       try clear hcz58_0
       try clear hcz58_1
       try clear hcz58_2
       try clear hcz58_3
       try clear hcz58_4
       try clear hcz58_5
       try clear hcz5_0
       try clear hcz5_1
       try clear hcz5_2
       try clear hcz5_3
       try clear hcz5_4
       try clear hcz5_5
       try clear hcz64_0
       try clear hcz64_1
       try clear hcz64_2
       try clear hcz67_0
       try clear hcz67_1
       try clear hcz67_2
       try clear hcz67_3
       try clear hcz67_4
       try clear hcz67_5
       try clear hcz69_0
       try clear hcz69_1
       try clear hcz69_2
       try clear hcz69_3
       try clear hcz69_4
       try clear hcz69_5
       try clear hcz72_0
       try clear hcz72_1
       try clear hcz72_2
       try clear hcz75_0
       try clear hcz75_1
       try clear hcz75_2
       try clear hcz75_3
       try clear hcz75_4
       try clear hcz75_5
       try clear hcz77_0
       try clear hcz77_1
       try clear hcz77_2
       try clear hfz13_0
       try clear hfz13_1
       try clear hfz13_2
       try clear hfz13_3
       try clear hfz13_4
       try clear hfz13_5
       try clear hfz16_0
       try clear hfz16_1
       try clear hfz16_2
       try clear hfz16_3
       try clear hfz16_4
       try clear hfz16_5
       try clear hfz23_1
       try clear hfz23_2
       try clear hfz26_0
       try clear hfz26_1
       try clear hfz26_2
       try clear hfz26_3
       try clear hfz26_4
       try clear hfz26_5
       try clear hfz29_1
       try clear hfz29_2
       try clear hfz32_0
       try clear hfz32_1
       try clear hfz32_2
       try clear hfz32_3
       try clear hfz32_4
       try clear hfz32_5
       try clear hfz33_1
       try clear hfz33_2
       try clear hfz36_0
       try clear hfz36_1
       try clear hfz36_2
       try clear hfz36_3
       try clear hfz36_4
       try clear hfz36_5
       try clear hfz37_0
       try clear hfz37_1
       try clear hfz37_2
       try clear hfz37_3
       try clear hfz37_4
       try clear hfz37_5
       try clear hfz39_0
       try clear hfz39_1
       try clear hfz39_2
       try clear hfz39_3
       try clear hfz39_4
       try clear hfz39_5
       try clear hfz49_0
       try clear hfz49_1
       try clear hfz49_2
       try clear hfz49_3
       try clear hfz49_4
       try clear hfz49_5
       try clear hfz51_0
       try clear hfz51_1
       try clear hfz51_2
       try clear hfz51_3
       try clear hfz51_4
       try clear hfz51_5
       try clear hfz53_0
       try clear hfz53_1
       try clear hfz53_2
       try clear hfz53_3
       try clear hfz53_4
       try clear hfz53_5
       try clear hfz55_0
       try clear hfz55_1
       try clear hfz55_2
       try clear hfz55_3
       try clear hfz55_4
       try clear hfz55_5
       try clear hfz58_0
       try clear hfz58_1
       try clear hfz58_2
       try clear hfz58_3
       try clear hfz58_4
       try clear hfz58_5
       try clear hfz5_0
       try clear hfz5_1
       try clear hfz5_2
       try clear hfz5_3
       try clear hfz5_4
       try clear hfz5_5
       try clear hfz64_1
       try clear hfz64_2
       try clear hfz67_0
       try clear hfz67_1
       try clear hfz67_2
       try clear hfz67_3
       try clear hfz67_4
       try clear hfz67_5
       try clear hfz69_0
       try clear hfz69_1
       try clear hfz69_2
       try clear hfz69_3
       try clear hfz69_4
       try clear hfz69_5
       try clear hfz72_1
       try clear hfz72_2
       try clear hfz75_0
       try clear hfz75_1
       try clear hfz75_2
       try clear hfz75_3
       try clear hfz75_4
       try clear hfz75_5
       try clear hfz77_1
       try clear hfz77_2
       try clear hx313_0
       try clear p2
       try clear p3
       try clear p31
       try clear p313
       try clear q3
       try clear q31
       try clear q313
       obtain ⟨kq, x77_44, rfl, HA, HJ44, HO_308000, HO_308001, BK305, BK307, HB⟩ := hcut
       cases kq with
       | zero => exact absurd HA.out (by simp [terrierref13_Decode.j3])
       | succ kj44 =>
        have H := HA.out
        clear HA
        simp only [terrierref13_Decode.j3] at H
        by_cases c78 : x77_44 = true
        ·
         subst c78
         have H1 : (some (([] : List Int), ([] : List Int), 0, 0, 0, 0, false, false)) = some (r1, r2, r3, r4, r5, r6, r7, r8) := by rw [if_pos rfl] at H; exact H
         clear H
         have H := H1
         clear H1
         simp only [Option.some.injEq, Prod.mk.injEq] at H
         obtain ⟨rfl, rfl, rfl, rfl, rfl, rfl, rfl, rfl⟩ := H
         have hnb79 := NB305_307.out
         have hnc79 := NB307_305.out
         have hcz80_0 : wc.cell? ⟨gb305, 0, none⟩ = some (.slice none 0 0) := (blk_cell BK305.out 0).trans rfl
         have hcz80_1 : wc.cell? ⟨gb305, 1, none⟩ = some (.slice none 0 0) := (blk_cell BK305.out 1).trans rfl
         have hcz80_2 : wc.cell? ⟨gb305, 2, none⟩ = some (.int .i64 x306002_7) := (blk_cell BK305.out 2).trans rfl
         have hcz80_3 : wc.cell? ⟨gb305, 3, none⟩ = some (.int .i64 x306003_7) := (blk_cell BK305.out 3).trans rfl
         have hcz80_4 : wc.cell? ⟨gb305, 4, none⟩ = some (.int .i64 x306004_7) := (blk_cell BK305.out 4).trans rfl
         have hcz80_5 : wc.cell? ⟨gb305, 5, none⟩ = some (.int .i64 x306005_7) := (blk_cell BK305.out 5).trans rfl
         have hfz80_0 := blk_frozen BK305.out 0
         have hfz80_1 := blk_frozen BK305.out 1
         have hfz80_2 := blk_frozen BK305.out 2
         have hfz80_3 := blk_frozen BK305.out 3
         have hfz80_4 := blk_frozen BK305.out 4
         have hfz80_5 := blk_frozen BK305.out 5
         go_wp2
         refine bodyPost_ret (results_ctt rfl _ _ gb305 24 #[.slice none 0 0, .slice none 0 0, .int .i64 0, .int .i64 0, .int .i64 0, .int .i64 0] (0, 0) _ rfl (by refine blk_put (cs := #[.slice none 0 0, .slice none 0 0, .int .i64 0, .int .i64 0, .int .i64 0, .int .i64 x306005_7]) ?_ 5 _ rfl; refine blk_put (cs := #[.slice none 0 0, .slice none 0 0, .int .i64 0, .int .i64 0, .int .i64 x306004_7, .int .i64 x306005_7]) ?_ 4 _ rfl; refine blk_put (cs := #[.slice none 0 0, .slice none 0 0, .int .i64 0, .int .i64 x306003_7, .int .i64 x306004_7, .int .i64 x306005_7]) ?_ 3 _ rfl; refine blk_put (cs := #[.slice none 0 0, .slice none 0 0, .int .i64 x306002_7, .int .i64 x306003_7, .int .i64 x306004_7, .int .i64 x306005_7]) ?_ 2 _ rfl; refine blk_put (cs := #[.slice none 0 0, .slice none 0 0, .int .i64 x306002_7, .int .i64 x306003_7, .int .i64 x306004_7, .int .i64 x306005_7]) ?_ 1 _ rfl; refine blk_put (cs := #[.slice none 0 0, .slice none 0 0, .int .i64 x306002_7, .int .i64 x306003_7, .int .i64 x306004_7, .int .i64 x306005_7]) ?_ 0 _ rfl; exact BK305.out) Try.underlying24 rfl (by kernel_rfl)) rfl ?_
         exact ⟨_, _, by first | rfl | (simp [errW_none, errW_some] <;> rfl) | (simp [*, errW_none, errW_some] <;> rfl), by first | exact Kd.R_nil _ _ _ _ _ | exact Kd.N_nil _ _ _ _ _ | exact Kd.V_nil _ _ _ _ _ | exact Kd.Q_nil _ _ _ _ _ | exact Kd.S_nil _ _ _ _ _, by first | exact Kd.R_nil _ _ _ _ _ | exact Kd.N_nil _ _ _ _ _ | exact Kd.V_nil _ _ _ _ _ | exact Kd.Q_nil _ _ _ _ _ | exact Kd.S_nil _ _ _ _ _, by repeat (first | (with_reducible first | exact HB.out | apply Ext.ba | apply Ext.bn | apply Ext.bd | refine Ext.bs ?_ GE305.out | refine Ext.bs ?_ GE307.out) | exact HB.out | exact .refl _ _)⟩
        ·
         replace c78 := Bool.eq_false_iff.mpr c78
         subst c78
         have H1 : (some (t308, t330, (wrap64 (t318)), (wrap64 (t321)), (wrap64 (t324)), (wrap64 (t327)), false, true)) = some (r1, r2, r3, r4, r5, r6, r7, r8) := by rw [if_neg (show ¬ (false = true) by decide)] at H; exact H
         clear H
         have H := H1
         clear H1
         simp only [Option.some.injEq, Prod.mk.injEq] at H
         obtain ⟨rfl, rfl, rfl, rfl, rfl, rfl, rfl, rfl⟩ := H
         have hnb81 := NB307_305.out
         have hnc81 := NB305_307.out
         have hcz82_0 : wc.cell? ⟨gb307, 0, none⟩ = some (.slice Ao15 t308.length co15) := (blk_cell BK307.out 0).trans rfl
         have hcz82_1 : wc.cell? ⟨gb307, 1, none⟩ = some (.slice Ao57 t330.length co57) := (blk_cell BK307.out 1).trans rfl
         have hcz82_2 : wc.cell? ⟨gb307, 2, none⟩ = some (.int .i64 (wrap64 (t318))) := (blk_cell BK307.out 2).trans rfl
         have hcz82_3 : wc.cell? ⟨gb307, 3, none⟩ = some (.int .i64 (wrap64 (t321))) := (blk_cell BK307.out 3).trans rfl
         have hcz82_4 : wc.cell? ⟨gb307, 4, none⟩ = some (.int .i64 (wrap64 (t324))) := (blk_cell BK307.out 4).trans rfl
         have hcz82_5 : wc.cell? ⟨gb307, 5, none⟩ = some (.int .i64 (wrap64 (t327))) := (blk_cell BK307.out 5).trans rfl
         have hfz82_0 := blk_frozen BK307.out 0
         have hfz82_1 := blk_frozen BK307.out 1
         have hfz82_2 := blk_frozen BK307.out 2
         have hfz82_3 := blk_frozen BK307.out 3
         have hfz82_4 := blk_frozen BK307.out 4
         have hfz82_5 := blk_frozen BK307.out 5
         have hcz83_0 : wc.cell? ⟨gb305, 0, none⟩ = some (.slice none 0 0) := (blk_cell BK305.out 0).trans rfl
         have hcz83_1 : wc.cell? ⟨gb305, 1, none⟩ = some (.slice none 0 0) := (blk_cell BK305.out 1).trans rfl
         have hcz83_2 : wc.cell? ⟨gb305, 2, none⟩ = some (.int .i64 x306002_7) := (blk_cell BK305.out 2).trans rfl
         have hcz83_3 : wc.cell? ⟨gb305, 3, none⟩ = some (.int .i64 x306003_7) := (blk_cell BK305.out 3).trans rfl
         have hcz83_4 : wc.cell? ⟨gb305, 4, none⟩ = some (.int .i64 x306004_7) := (blk_cell BK305.out 4).trans rfl
         have hcz83_5 : wc.cell? ⟨gb305, 5, none⟩ = some (.int .i64 x306005_7) := (blk_cell BK305.out 5).trans rfl
         have hfz83_0 := blk_frozen BK305.out 0
         have hfz83_1 := blk_frozen BK305.out 1
         have hfz83_2 := blk_frozen BK305.out 2
         have hfz83_3 := blk_frozen BK305.out 3
         have hfz83_4 := blk_frozen BK305.out 4
         have hfz83_5 := blk_frozen BK305.out 5
         go_wp2
         refine bodyPost_ret (results_ctt rfl _ _ gb305 24 #[.slice Ao15 t308.length co15, .slice Ao57 t330.length co57, .int .i64 (wrap64 (t318)), .int .i64 (wrap64 (t321)), .int .i64 (wrap64 (t324)), .int .i64 (wrap64 (t327))] (0, 0) _ rfl (by refine blk_put (cs := #[.slice Ao15 t308.length co15, .slice Ao57 t330.length co57, .int .i64 (wrap64 (t318)), .int .i64 (wrap64 (t321)), .int .i64 (wrap64 (t324)), .int .i64 x306005_7]) ?_ 5 _ rfl; refine blk_put (cs := #[.slice Ao15 t308.length co15, .slice Ao57 t330.length co57, .int .i64 (wrap64 (t318)), .int .i64 (wrap64 (t321)), .int .i64 x306004_7, .int .i64 x306005_7]) ?_ 4 _ rfl; refine blk_put (cs := #[.slice Ao15 t308.length co15, .slice Ao57 t330.length co57, .int .i64 (wrap64 (t318)), .int .i64 x306003_7, .int .i64 x306004_7, .int .i64 x306005_7]) ?_ 3 _ rfl; refine blk_put (cs := #[.slice Ao15 t308.length co15, .slice Ao57 t330.length co57, .int .i64 x306002_7, .int .i64 x306003_7, .int .i64 x306004_7, .int .i64 x306005_7]) ?_ 2 _ rfl; refine blk_put (cs := #[.slice Ao15 t308.length co15, .slice none 0 0, .int .i64 x306002_7, .int .i64 x306003_7, .int .i64 x306004_7, .int .i64 x306005_7]) ?_ 1 _ rfl; refine blk_put (cs := #[.slice none 0 0, .slice none 0 0, .int .i64 x306002_7, .int .i64 x306003_7, .int .i64 x306004_7, .int .i64 x306005_7]) ?_ 0 _ rfl; exact BK305.out) Try.underlying24 rfl (by kernel_rfl)) rfl ?_
         exact ⟨_, _, by first | rfl | (simp [errW_none, errW_some] <;> rfl) | (simp [*, errW_none, errW_some] <;> rfl), by (with_reducible repeat (first | apply Kd.R_alloc | apply Kd.R_drewN | apply Kd.R_drew)); exact Kd.R_mono (Kd.R_far (p := ⟨gb305, 5, none⟩) (Kd.R_far (p := ⟨gb305, 4, none⟩) (Kd.R_far (p := ⟨gb305, 3, none⟩) (Kd.R_far (p := ⟨gb305, 2, none⟩) (Kd.R_far (p := ⟨gb305, 1, none⟩) (Kd.R_far (p := ⟨gb305, 0, none⟩) (Kd.R_types HO_308000.out BK305.out (by decide)) (fun _ hk => hk.2) (.slice Ao15 t308.length co15)) (fun _ hk => hk.2) (.slice Ao57 t330.length co57)) (fun _ hk => hk.2) (.int .i64 (wrap64 (t318)))) (fun _ hk => hk.2) (.int .i64 (wrap64 (t321)))) (fun _ hk => hk.2) (.int .i64 (wrap64 (t324)))) (fun _ hk => hk.2) (.int .i64 (wrap64 (t327)))) (fun _ hk => hk.1), by (with_reducible repeat (first | apply Kd.R_alloc | apply Kd.R_drewN | apply Kd.R_drew)); exact Kd.R_mono (Kd.R_far (p := ⟨gb305, 5, none⟩) (Kd.R_far (p := ⟨gb305, 4, none⟩) (Kd.R_far (p := ⟨gb305, 3, none⟩) (Kd.R_far (p := ⟨gb305, 2, none⟩) (Kd.R_far (p := ⟨gb305, 1, none⟩) (Kd.R_far (p := ⟨gb305, 0, none⟩) (Kd.R_types HO_308001.out BK305.out (by decide)) (fun _ hk => hk.2) (.slice Ao15 t308.length co15)) (fun _ hk => hk.2) (.slice Ao57 t330.length co57)) (fun _ hk => hk.2) (.int .i64 (wrap64 (t318)))) (fun _ hk => hk.2) (.int .i64 (wrap64 (t321)))) (fun _ hk => hk.2) (.int .i64 (wrap64 (t324)))) (fun _ hk => hk.2) (.int .i64 (wrap64 (t327)))) (fun _ hk => hk.1), by repeat (first | (with_reducible first | exact HB.out | apply Ext.ba | apply Ext.bn | apply Ext.bd | refine Ext.bs ?_ GE305.out | refine Ext.bs ?_ GE307.out) | exact HB.out | exact .refl _ _)⟩
   · rw [if_neg c7] at H; exact absurd H (by simp)

end Go.Proofs.Ytapmgeofbjgalaa.PR
