-- Written by wip/printx.py, a program of this work over the kit's print, for this claim.
import Derived.Test.YtfkihcdonddcoaaPCx0
import Derived.Test.YtfkihcdonddcoaaPCx13
import Derived.Test.YtfkihcdonddcoaaPCx14
namespace Go.Proofs.Ytfkihcdonddcoaa.PC
open Go.RowKit Go.Proofs.YtfkihcdonddcoaaW.PrintWords Go.Proofs.YtfkihcdonddcoaaW.PrintLast Go.Proofs.YtfkihcdonddcoaaW.PrintMore
attribute [local go_sem] max2_int min2_int max_two min_two max_three min_three max_four min_four   -- for this text's walks alone
attribute [local go_sem] Ext.pick_u8 Ext.pick_u32 Ext.pick_u64
set_option linter.unusedVariables false
set_option linter.unusedSimpArgs false



/-! ### terrierref05_Encode: function 15 -/
mutual
def terrierref05_Encode.l0 : Nat → List Int → (Int × Int × Int) → Int → Int → Int → Int → Int → Option (List Int)
 | 0, _, _, _, _, _, _, _ => none
 | k + 1, x3, x19, x20, x237000, x237001, x237002, x237003 => if x20 < 3 then (if 0 ≤ x20 then ((terrierref01_Put.f k (IntKind.u64.wrap (Ext.ix3 x19 x20)) 4).bind fun t249 => (if x3.length + t249.length < 140737488355328 then (terrierref05_Encode.l0 k (x3 ++ t249) x19 (wrap64 (x20 + 1)) x237000 x237001 x237002 x237003) else (none))) else (none)) else (terrierref05_Encode.l1 k x3 x237000 x237001 x237002 x237003)
def terrierref05_Encode.l1 : Nat → List Int → Int → Int → Int → Int → Option (List Int)
 | 0, _, _, _, _, _ => none
 | k + 1, x3, x237000, x237001, x237002, x237003 => if (x3.length : Int) < 244 then (if x3.length < 140737488355328 then (terrierref05_Encode.l1 k (x3 ++ [0]) x237000 x237001 x237002 x237003) else (none)) else ((terrierref01_Put.f k x237000 8).bind fun t258 => (if x3.length + t258.length < 140737488355328 then ((terrierref02_Seal.f k (x3 ++ t258)).bind fun t264 => (some t264)) else (none)))
end
def terrierref05_Encode.f (k : Nat) (a0_0 : Int) (a0_1 : Int) (a0_2 : Int) (a0_3 : Int) : Option (List Int) := (some (([9] : List Int) : List Int)).bind fun y237 => ((terrierref01_Put.f k a0_0 8).bind fun t240 => (if y237.length + t240.length < 140737488355328 then ((some (y237 ++ t240 : List Int)).bind fun y243 => (if y243.length + 5 < 140737488355328 then (terrierref05_Encode.l0 k (y243 ++ bytesOf (⟨#[84, 69, 82, 82, 1]⟩ : ByteArray)) (a0_1, a0_2, a0_3) 0 a0_0 a0_1 a0_2 a0_3) else (none))) else (none)))
set_option maxRecDepth 100000 in
theorem terrierref05_Encode.l1_eq (k : Nat) (x3 : List Int) (x237000 x237001 x237002 x237003 : Int) : terrierref05_Encode.l1 (k + 1) x3 x237000 x237001 x237002 x237003 = (if (x3.length : Int) < 244 then (if x3.length < 140737488355328 then (terrierref05_Encode.l1 k (x3 ++ [0]) x237000 x237001 x237002 x237003) else (none)) else ((terrierref01_Put.f k x237000 8).bind fun t258 => (if x3.length + t258.length < 140737488355328 then ((terrierref02_Seal.f k (x3 ++ t258)).bind fun t264 => (some t264)) else (none)))) := rfl
theorem terrierref05_Encode.mono_l : ∀ k, (∀ y0 y1 y2 y3 y4 y5 y6, LeO (terrierref05_Encode.l0 k y0 y1 y2 y3 y4 y5 y6) (terrierref05_Encode.l0 (k + 1) y0 y1 y2 y3 y4 y5 y6)) ∧ (∀ y0 y1 y2 y3 y4, LeO (terrierref05_Encode.l1 k y0 y1 y2 y3 y4) (terrierref05_Encode.l1 (k + 1) y0 y1 y2 y3 y4))
 | 0 => ⟨fun _ _ _ _ _ _ _ r h => by simp [terrierref05_Encode.l0] at h, fun _ _ _ _ _ r h => by (have h_ : (none : Option (List Int)) = some r := h; cases h_)⟩
 | k + 1 => by
  obtain ⟨ih0, ih1⟩ := terrierref05_Encode.mono_l k
  refine ⟨?_, ?_⟩
  ·
   intro y0 y1 y2 y3 y4 y5 y6
   unfold terrierref05_Encode.l0
   repeat' first
   | (with_reducible exact ih0 _ _ _ _ _ _ _)
   | (with_reducible exact ih1 _ _ _ _ _)
   | (with_reducible exact terrierref01_Put.mono _ _ _)
   | (with_reducible exact terrierref02_Seal.mono _ _)
   | (with_reducible exact LeO.refl _)
   | (with_reducible exact LeO.none _)
   | (with_reducible refine LeO.ite ?_ ?_)
   | (with_reducible refine LeO.bind ?_ (fun _ => ?_))
   | exact ih0 _ _ _ _ _ _ _
   | exact ih1 _ _ _ _ _
   | exact terrierref01_Put.mono _ _ _
   | exact terrierref02_Seal.mono _ _
   | exact LeO.none _
   | refine LeO.ite ?_ ?_
   | refine LeO.bind ?_ (fun _ => ?_)
  ·
   intro y0 y1 y2 y3 y4
   rw [terrierref05_Encode.l1_eq k, terrierref05_Encode.l1_eq (k + 1)]
   repeat' first
   | (with_reducible exact ih0 _ _ _ _ _ _ _)
   | (with_reducible exact ih1 _ _ _ _ _)
   | (with_reducible exact terrierref01_Put.mono _ _ _)
   | (with_reducible exact terrierref02_Seal.mono _ _)
   | (with_reducible exact LeO.refl _)
   | (with_reducible exact LeO.none _)
   | (with_reducible refine LeO.ite ?_ ?_)
   | (with_reducible refine LeO.bind ?_ (fun _ => ?_))
   | exact ih0 _ _ _ _ _ _ _
   | exact ih1 _ _ _ _ _
   | exact terrierref01_Put.mono _ _ _
   | exact terrierref02_Seal.mono _ _
   | exact LeO.none _
   | refine LeO.ite ?_ ?_
   | refine LeO.bind ?_ (fun _ => ?_)
theorem terrierref05_Encode.mono : ∀ a0 a1 a2 a3 k, LeO (terrierref05_Encode.f k a0 a1 a2 a3) (terrierref05_Encode.f (k + 1) a0 a1 a2 a3) := by
 intro a0 a1 a2 a3 k
 obtain ⟨ih0, ih1⟩ := terrierref05_Encode.mono_l k
 unfold terrierref05_Encode.f
 repeat' first
   | (with_reducible exact ih0 _ _ _ _ _ _ _)
   | (with_reducible exact ih1 _ _ _ _ _)
   | (with_reducible exact terrierref01_Put.mono _ _ _)
   | (with_reducible exact terrierref02_Seal.mono _ _)
   | (with_reducible exact LeO.refl _)
   | (with_reducible exact LeO.none _)
   | (with_reducible refine LeO.ite ?_ ?_)
   | (with_reducible refine LeO.bind ?_ (fun _ => ?_))
   | exact ih0 _ _ _ _ _ _ _
   | exact ih1 _ _ _ _ _
   | exact terrierref01_Put.mono _ _ _
   | exact terrierref02_Seal.mono _ _
   | exact LeO.none _
   | refine LeO.ite ?_ ?_
   | refine LeO.bind ?_ (fun _ => ?_)
set_option maxHeartbeats 8000000 in
set_option maxRecDepth 100000 in
theorem terrierref05_Encode.calls (k : Nat) (a0_0 : Int) (a0_1 : Int) (a0_2 : Int) (a0_3 : Int) (r : List Int) (w : World) (h : terrierref05_Encode.f k a0_0 a0_1 a0_2 a0_3 = some r) :
  Calls Try.prog 15 #[.agg #[.int .u64 a0_0, .int .i64 a0_1, .int .i64 a0_2, .int .i64 a0_3]] w fun e w' => ∃ v0_ : Value, e = .returned (v0_) ∧ Kd.R (Kd.int .u8) 5 w' w.heap.size (fun _ => True) v0_ r ∧ Below w.heap.size w w' := by
 have hu31 := Try.underlying31
 have hu51 := Try.underlying51
 have HB := Ext.a (Below.refl w.heap.size w)
 have H : ((some (([9] : List Int) : List Int)).bind fun y237 => ((terrierref01_Put.f k a0_0 8).bind fun t240 => (if y237.length + t240.length < 140737488355328 then ((some (y237 ++ t240 : List Int)).bind fun y243 => (if y243.length + 5 < 140737488355328 then (terrierref05_Encode.l0 k (y243 ++ bytesOf (⟨#[84, 69, 82, 82, 1]⟩ : ByteArray)) (a0_1, a0_2, a0_3) 0 a0_0 a0_1 a0_2 a0_3) else (none))) else (none)))) = some r := h
 clear h
 obtain ⟨y237, hy237⟩ : ∃ y_ : List Int, y_ = (([9] : List Int)) := ⟨_, rfl⟩
 replace H : ((terrierref01_Put.f k a0_0 8).bind fun t240 => (if y237.length + t240.length < 140737488355328 then ((some (y237 ++ t240 : List Int)).bind fun y243 => (if y243.length + 5 < 140737488355328 then (terrierref05_Encode.l0 k (y243 ++ bytesOf (⟨#[84, 69, 82, 82, 1]⟩ : ByteArray)) (a0_1, a0_2, a0_3) 0 a0_0 a0_1 a0_2 a0_3) else (none))) else (none))) = some r := by first | (rw [hy237]; with_reducible exact H) | (have H2_ := (Option.bind_some _ _).symm.trans H; rw [hy237]; with_reducible exact H2_) | (have H2_ := (Option.bind_some _ _).symm.trans H; with_reducible exact H2_) | with_reducible exact H | (rw [hy237]; exact H) | exact H
 have Ny237 := Aside0.mk hy237
 clear hy237
 replace H := Option.bind_eq_some_iff.mp H
 obtain ⟨t240, A20, H⟩ := H
 replace H : (if y237.length + t240.length < 140737488355328 then ((some (y237 ++ t240 : List Int)).bind fun y243 => (if y243.length + 5 < 140737488355328 then (terrierref05_Encode.l0 k (y243 ++ bytesOf (⟨#[84, 69, 82, 82, 1]⟩ : ByteArray)) (a0_1, a0_2, a0_3) 0 a0_0 a0_1 a0_2 a0_3) else (none))) else (none)) = some r := H
 have A2 := Aside0.mk A20
 clear A20
 by_cases c3 : y237.length + t240.length < 140737488355328
 ·
  rw [if_pos c3] at H
  have LMc3 := Aside0.mk c3
  clear c3
  obtain ⟨y243, hy243⟩ : ∃ y_ : List Int, y_ = (y237 ++ t240) := ⟨_, rfl⟩
  replace H : (if y243.length + 5 < 140737488355328 then (terrierref05_Encode.l0 k (y243 ++ bytesOf (⟨#[84, 69, 82, 82, 1]⟩ : ByteArray)) (a0_1, a0_2, a0_3) 0 a0_0 a0_1 a0_2 a0_3) else (none)) = some r := by first | (rw [hy243]; with_reducible exact H) | (have H2_ := (Option.bind_some _ _).symm.trans H; rw [hy243]; with_reducible exact H2_) | (have H2_ := (Option.bind_some _ _).symm.trans H; with_reducible exact H2_) | with_reducible exact H | (rw [hy243]; exact H) | exact H
  have Ny243 := Aside0.mk hy243
  clear hy243
  by_cases c4 : y243.length + 5 < 140737488355328
  ·
   rw [if_pos c4] at H
   have LMc4 := Aside0.mk c4
   clear c4
   obtain ⟨y246, hy246⟩ : ∃ y_ : List Int, y_ = (y243 ++ bytesOf (⟨#[84, 69, 82, 82, 1]⟩ : ByteArray)) := ⟨_, rfl⟩
   replace H : (terrierref05_Encode.l0 k y246 (a0_1, a0_2, a0_3) 0 a0_0 a0_1 a0_2 a0_3) = some r := by first | (rw [hy246]; with_reducible exact H) | (have H2_ := (Option.bind_some _ _).symm.trans H; rw [hy246]; with_reducible exact H2_) | (have H2_ := (Option.bind_some _ _).symm.trans H; with_reducible exact H2_) | with_reducible exact H | (rw [hy246]; exact H) | exact H
   have Ny246 := Aside0.mk hy246
   clear hy246
   have H' := Aside0.mk H
   clear H
   go_enter Try.func15, Try.ntmps15
   go_wp2_with (first | ((with_reducible refine gate_dst (N := 1) rfl ?_); refine box_event ?hg (N := 1) ?hd (cs := #[.int .u64 a0_0, .int .i64 a0_1, .int .i64 a0_2, .int .i64 a0_3]) (t := 31) ?hr ?_; (case hd => rfl); (case hg => rfl); (case hr => first | (go_simp; done) | (go_simp; rfl)); intro gb236 hg w5 hbox hb; have n0_ := Ext.a (below_step (Ext.nB HB.out) hb); have n1_ := Ext.a (hbox); have n2_ := Ext.a ((by rw [hg]; exact (below_size (Ext.nB HB.out)) : w.heap.size ≤ gb236)); have n3_ := Ext.a ((by rw [hg]; exact (below_size (Ext.nB HB.out)) : w.heap.size ≤ gb236)); clear HB; have HB := n0_; have BK236 := n1_; have GW236 := n2_; have GE236 := n3_; clear n0_ n1_ n2_ n3_; clear hb hbox hg) | ((with_reducible refine gate_dst (N := 6) rfl ?_); refine Kd.R_lit (Kd.int .u8) _ 5 ?hg (N := 6) ?hd (xs := ([9] : List Int)) (inner := [.int .u8 9]) (ok := fun _ => True) (okp := fun _ => True) ?hr ?hp (fun _ hk => hk) trivial (Below.refl _ _) (Nat.le_refl _) (by simp) ?_; (case hd => rfl); (case hg => rfl); (case hr => first | (go_simp; done) | (go_simp; rfl)); (case hp => exact (Reps.one (show Kd.M (Kd.int .u8) _ _ _ 9 [.int .u8 9] from rfl) (Reps.none _ _))); intro v238 w6 ho7 hb hg_ hnew_; clear hg_ hnew_; (first | rw [← Ny237.out] at ho7 | (simp only [Int.reduceToNat] at ho7; rw [← Ny237.out] at ho7)); have n0_ := Ext.a (Kd.R_lower ho7 (below_size (by repeat (first | (with_reducible first | exact HB.out | apply Ext.ba | apply Ext.bn | apply Ext.bd | refine Ext.bs ?_ GE236.out) | exact HB.out | exact .refl _ _)))); have n1_ := Ext.a (blk_below BK236.out hb); have n2_ := Ext.a (below_step (by repeat (first | (with_reducible first | exact HB.out | apply Ext.ba | apply Ext.bn | apply Ext.bd | refine Ext.bs ?_ GE236.out) | exact HB.out | exact .refl _ _)) hb); clear BK236 HB; have HO239 := n0_; have BK236 := n1_; have HB := n2_; clear n0_ n1_ n2_; clear hb ho7; obtain ⟨hcz8_0, hcz8_1, hcz8_2, hcz8_3⟩ := Ext.cells4 BK236.out; obtain ⟨hfz8_0, hfz8_1, hfz8_2, hfz8_3⟩ := Ext.froz4 BK236.out) | ((with_reducible refine gate_callee (f := 25) rfl ?_); refine goesL_ (some 9) rfl rfl Try.func25 (by kernel_rfl) rfl #[.int .u64 a0_0, .int .i64 8] rfl (by (try simp only [List.map_toArray, List.map_cons, List.map_nil]); first | done | rfl | (simp only [List.length_drop, List.length_take]; rfl)) ?_; (with_reducible refine (terrierref01_Put.calls k a0_0 8 t240 _ A2.out).mono ?_); rintro e w9 ⟨v241, rfl, ho0, hb⟩; refine ⟨_, rfl, ?_⟩; have n0_ := Ext.a (Kd.R_elder' (Ext.nR HO239.out) (Kd.R_base ho0) hb); have n1_ := Ext.a (Kd.R_lower (Kd.R_new' ho0 (Kd.R_lt (Ext.nR HO239.out))) (below_size (by repeat (first | (with_reducible first | exact HB.out | apply Ext.ba | apply Ext.bn | apply Ext.bd | refine Ext.bs ?_ GE236.out) | exact HB.out | exact .refl _ _)))); have n2_ := Ext.a (blk_below BK236.out hb); have n3_ := Ext.a (below_step (by repeat (first | (with_reducible first | exact HB.out | apply Ext.ba | apply Ext.bn | apply Ext.bd | refine Ext.bs ?_ GE236.out) | exact HB.out | exact .refl _ _)) hb); clear HO239 BK236 HB; have HO239 := n0_; have HO242 := n1_; have BK236 := n2_; have HB := n3_; clear n0_ n1_ n2_ n3_; (try clear hb); (try clear hb2); (try clear hk); (try clear hi); (try clear ho0); obtain ⟨Ao11, co11, eo11⟩ := Kd.R_slice HO242.out; subst eo11) | ((with_reducible refine gate_builtin (b := .append) (xs := #[.tmp 6, .tmp 9]) rfl ?_); at_builtin; refine Kd.R_append_rows (Kd.int .u8) (w0 := w) w.heap.size rfl (.tmp 6) (.tmp 9) 26 5 (.int .u8 0) 1 rfl Try.underlying26 info5 rfl (by decide) (by omega) v238 y237 t240 _ _ _ (fun k_ => some k_ ≠ (.slice Ao11 t240.length co11 : Value).ownBlock) (fun _ => False) rfl rfl ?aO ?aR (fun _ _ h => h) (fun _ h => h.elim) ?aF ?aB ?aS ?aL ?_; (case aR => exact Ext.nC (Kd.R_reads' HO242.out).2.2); (case aB => exact (by repeat (first | (with_reducible first | exact HB.out | apply Ext.ba | apply Ext.bn | apply Ext.bd | refine Ext.bs ?_ GE236.out) | exact HB.out | exact .refl _ _))); (case aF => exact (fun k_ hk => Kd.fresh' (Kd.R_lt (Ext.nR HO242.out)) k_ hk)); (case aO => exact (Ext.nR (Kd.R_mono HO239.out (fun _ hk => hk.2)))); (case aS => exact (below_size (by repeat (first | (with_reducible first | exact HB.out | apply Ext.ba | apply Ext.bn | apply Ext.bd | refine Ext.bs ?_ GE236.out) | exact HB.out | exact .refl _ _)))); (case aL => have := LMc3.out; omega); intro v244 w10 ho hb hg hat; rw [← Ny243.out] at ho; have n0_ := Ext.a (blk_grown BK236.out hg (Kd.R_ne HO239.out BK236.out (by decide))); have n1_ := Ext.a (Kd.R_after (ok := (fun _ => True)) (Ext.nR HO242.out) hg hat); have n2_ := Ext.a (hb); have n3_ := Ext.a (ho); clear BK236 HO242 HB HO239; have BK236 := n0_; have HO242 := n1_; have HB := n2_; have HO245 := n3_; clear n0_ n1_ n2_ n3_; clear ho hb hg hat) | (at_builtin; refine print_append_str (w0 := w) w.heap.size rfl (.tmp 11) _ 26 9 5 rfl Try.underlying26 Try.underlying9 info5 v244 y243 (⟨#[84, 69, 82, 82, 1]⟩ : ByteArray) rfl rfl ?aO ?aB ?aS ?aL ?_; (case aB => exact (by repeat (first | (with_reducible first | exact HB.out | apply Ext.ba | apply Ext.bn | apply Ext.bd | refine Ext.bs ?_ GE236.out) | exact HB.out | exact .refl _ _))); (case aO => exact (Kd.own_of_R (Ext.nR HO245.out))); (case aS => exact (below_size (by repeat (first | (with_reducible first | exact HB.out | apply Ext.ba | apply Ext.bn | apply Ext.bd | refine Ext.bs ?_ GE236.out) | exact HB.out | exact .refl _ _)))); (case aL => have hsz_ : (⟨#[84, 69, 82, 82, 1]⟩ : ByteArray).size = 5 := rfl; have := LMc4.out; omega); intro v247 w12 ho0 hb hg; have ho := Kd.R_of_own (h1 := fun _ => rfl) (ok := fun _ => True) ho0 (fun _ _ => trivial); clear ho0; have hat := True.intro; rw [← Ny246.out] at ho; change Kd.R (Kd.int .u8) 5 w12 w.heap.size (fun _ => True) v247 y246 at ho; have n0_ := Ext.a (blk_grown BK236.out hg (Kd.R_ne HO245.out BK236.out (by decide))); have n1_ := Ext.a (hb); have n2_ := Ext.a (ho); clear BK236 HB HO245; have BK236 := n0_; have HB := n1_; have HO248 := n2_; clear n0_ n1_ n2_; clear ho hb hg hat; obtain ⟨hcz13_0, hcz13_1, hcz13_2, hcz13_3⟩ := Ext.cells4 BK236.out; obtain ⟨hfz13_0, hfz13_1, hfz13_2, hfz13_3⟩ := Ext.froz4 BK236.out))
   go_loopg [3, 20] k (fun kq v3 v20 w' => ∃ (x3_1 : List Int) (x20_1 : Int), v20 = .int .i64 x20_1 ∧ Aside0 (terrierref05_Encode.l0 kq x3_1 (a0_1, a0_2, a0_3) x20_1 a0_0 a0_1 a0_2 a0_3 = some r) ∧ Aside0 (kq ≤ k) ∧ Aside0 (Kd.R (Kd.int .u8) 5 w' w.heap.size (fun _ => True) v3 x3_1) ∧ Aside0 (w'.heap[gb236]? = some (.cells #[.int .u64 a0_0, .int .i64 a0_1, .int .i64 a0_2, .int .i64 a0_3] 31 (0, 0))) ∧ Aside0 (Below w.heap.size w w'))
   case atStart => exact ⟨(y246), (0), (by first | rfl | (simp; done) | (simp [*]; done)), H', ⟨Nat.le_refl _⟩, ⟨by (with_reducible repeat (first | apply Kd.R_alloc | apply Kd.R_drewN | apply Kd.R_drew)); exact HO248.out⟩, ⟨by exact BK236.out⟩, ⟨by repeat (first | (with_reducible first | exact HB.out | apply Ext.ba | apply Ext.bn | apply Ext.bd | refine Ext.bs ?_ GE236.out) | exact HB.out | exact .refl _ _)⟩⟩
   case round =>
    clear H'
    try clear c1
    try clear c2
    try clear p2
    try clear c3
    try clear c4
    try clear hcz13_0
    try clear hcz13_1
    try clear hcz13_2
    try clear hcz13_3
    try clear hcz8_0
    try clear hcz8_1
    try clear hcz8_2
    try clear hcz8_3
    try clear hfz13_0
    try clear hfz13_1
    try clear hfz13_2
    try clear hfz13_3
    try clear hfz8_0
    try clear hfz8_1
    try clear hfz8_2
    try clear hfz8_3
    obtain ⟨x3_1, x20_1, rfl, HA, HK1, HO_3, BK236, HB⟩ := hrel
    cases gk with
    | zero => exact absurd HA.out (by simp [terrierref05_Encode.l0])
    | succ k1 =>
     have H := HA.out
     clear HA
     simp only [terrierref05_Encode.l0] at H
     by_cases c14 : x20_1 < 3
     ·
      rw [if_pos c14] at H
      have c14b0 : decide (x20_1 < 3) = true := decide_eq_true c14
      clear c14
      by_cases c15 : 0 ≤ x20_1
      ·
       rw [if_pos c15] at H
       have c15b0 : decide (0 ≤ x20_1) = true := decide_eq_true c15
       clear c15
       have hxa16 := Ext.ix3_run Try.underlying51 Try.underlying3 info3 (a0_1, a0_2, a0_3) x20_1 (by first | omega | exact of_decide_eq_true (by first | (with_reducible assumption) | assumption)) (by first | omega | exact of_decide_eq_true (by first | (with_reducible assumption) | assumption))
       try dsimp only at hxa16
       replace H := Option.bind_eq_some_iff.mp H
       obtain ⟨t249, A170, H⟩ := H
       replace H : (if x3_1.length + t249.length < 140737488355328 then (terrierref05_Encode.l0 k1 (x3_1 ++ t249) (a0_1, a0_2, a0_3) (wrap64 (x20_1 + 1)) a0_0 a0_1 a0_2 a0_3) else (none)) = some r := H
       have A17 := Aside0.mk A170
       clear A170
       by_cases c18 : x3_1.length + t249.length < 140737488355328
       ·
        rw [if_pos c18] at H
        have LMc18 := Aside0.mk c18
        clear c18
        obtain ⟨y252, hy252⟩ : ∃ y_ : List Int, y_ = (x3_1 ++ t249) := ⟨_, rfl⟩
        replace H : (terrierref05_Encode.l0 k1 y252 (a0_1, a0_2, a0_3) (wrap64 (x20_1 + 1)) a0_0 a0_1 a0_2 a0_3) = some r := by first | (rw [hy252]; with_reducible exact H) | (have H2_ := (Option.bind_some _ _).symm.trans H; rw [hy252]; with_reducible exact H2_) | (have H2_ := (Option.bind_some _ _).symm.trans H; with_reducible exact H2_) | with_reducible exact H | (rw [hy252]; exact H) | exact H
        have Ny252 := Aside0.mk hy252
        clear hy252
        have H' := Aside0.mk H
        clear H
        go_wp2_with (first | ((with_reducible refine gate_callee (f := 25) rfl ?_); refine goesL_ (some 26) rfl rfl Try.func25 (by kernel_rfl) rfl #[.int .u64 (IntKind.u64.wrap (Ext.ix3 (a0_1, a0_2, a0_3) x20_1)), .int .i64 4] rfl (by (try simp only [List.map_toArray, List.map_cons, List.map_nil]); first | done | rfl | (simp only [List.length_drop, List.length_take]; rfl)) ?_; (with_reducible refine (terrierref01_Put.calls k1 (IntKind.u64.wrap (Ext.ix3 (a0_1, a0_2, a0_3) x20_1)) 4 t249 _ A17.out).mono ?_); rintro e w19 ⟨v250, rfl, ho0, hb⟩; refine ⟨_, rfl, ?_⟩; have n0_ := Ext.a (Kd.R_elder' (Ext.nR HO_3.out) (Kd.R_base ho0) hb); have n1_ := Ext.a (Kd.R_lower (Kd.R_new' ho0 (Kd.R_lt (Ext.nR HO_3.out))) (below_size (by repeat (first | (with_reducible first | exact HB.out | apply Ext.ba | apply Ext.bn | apply Ext.bd | refine Ext.bs ?_ GE236.out) | exact HB.out | exact .refl _ _)))); have n2_ := Ext.a (blk_below BK236.out hb); have n3_ := Ext.a (below_step (by repeat (first | (with_reducible first | exact HB.out | apply Ext.ba | apply Ext.bn | apply Ext.bd | refine Ext.bs ?_ GE236.out) | exact HB.out | exact .refl _ _)) hb); clear HO_3 BK236 HB; have HO_3 := n0_; have HO251 := n1_; have BK236 := n2_; have HB := n3_; clear n0_ n1_ n2_ n3_; (try clear hb); (try clear hb2); (try clear hk); (try clear hi); (try clear ho0); obtain ⟨Ao21, co21, eo21⟩ := Kd.R_slice HO251.out; subst eo21) | ((with_reducible refine gate_builtin (b := .append) (xs := #[.tmp 23, .tmp 26]) rfl ?_); at_builtin; refine Kd.R_append_rows (Kd.int .u8) (w0 := w) w.heap.size rfl (.tmp 23) (.tmp 26) 26 5 (.int .u8 0) 1 rfl Try.underlying26 info5 rfl (by decide) (by omega) u3 x3_1 t249 _ _ _ (fun k_ => some k_ ≠ (.slice Ao21 t249.length co21 : Value).ownBlock) (fun _ => False) rfl rfl ?aO ?aR (fun _ _ h => h) (fun _ h => h.elim) ?aF ?aB ?aS ?aL ?_; (case aR => exact Ext.nC (Kd.R_reads' HO251.out).2.2); (case aB => exact (by repeat (first | (with_reducible first | exact HB.out | apply Ext.ba | apply Ext.bn | apply Ext.bd | refine Ext.bs ?_ GE236.out) | exact HB.out | exact .refl _ _))); (case aF => exact (fun k_ hk => Kd.fresh' (Kd.R_lt (Ext.nR HO251.out)) k_ hk)); (case aO => exact (Ext.nR (Kd.R_mono HO_3.out (fun _ hk => hk.2)))); (case aS => exact (below_size (by repeat (first | (with_reducible first | exact HB.out | apply Ext.ba | apply Ext.bn | apply Ext.bd | refine Ext.bs ?_ GE236.out) | exact HB.out | exact .refl _ _)))); (case aL => have := LMc18.out; omega); intro v253 w20 ho hb hg hat; rw [← Ny252.out] at ho; have n0_ := Ext.a (blk_grown BK236.out hg (Kd.R_ne HO_3.out BK236.out (by decide))); have n1_ := Ext.a (Kd.R_after (ok := (fun _ => True)) (Ext.nR HO251.out) hg hat); have n2_ := Ext.a (hb); have n3_ := Ext.a (ho); clear BK236 HO251 HB HO_3; have BK236 := n0_; have HO251 := n1_; have HB := n2_; have HO254 := n3_; clear n0_ n1_ n2_ n3_; clear ho hb hg hat))
        go_roundg k1
        case measure => have := HK1.out; omega
        case rel => exact ⟨(y252), (wrap64 (x20_1 + 1)), (by first | rfl | (simp; done) | (simp [*]; done)), H', ⟨by have := HK1.out; omega⟩, ⟨by (with_reducible repeat (first | apply Kd.R_alloc | apply Kd.R_drewN | apply Kd.R_drew)); exact Kd.R_mono HO254.out (fun _ hk => trivial)⟩, ⟨by exact BK236.out⟩, ⟨by repeat (first | (with_reducible first | exact HB.out | apply Ext.ba | apply Ext.bn | apply Ext.bd | refine Ext.bs ?_ GE236.out) | exact HB.out | exact .refl _ _)⟩⟩
       · rw [if_neg c18] at H; exact absurd H (by simp)
      · rw [if_neg c15] at H; exact absurd H (by simp)
     ·
      rw [if_neg c14] at H
      have c14b0 : decide (x20_1 < 3) = false := decide_eq_false c14
      clear c14
      have H' := Aside0.mk H
      clear H
      go_wp2
      go_loopg [3] k1 (fun kq v3 w' => ∃ (x3_2 : List Int), Aside0 (terrierref05_Encode.l1 kq x3_2 a0_0 a0_1 a0_2 a0_3 = some r) ∧ Aside0 (kq ≤ k1) ∧ Aside0 (Kd.R (Kd.int .u8) 5 w' w.heap.size (fun _ => True) v3 x3_2) ∧ Aside0 (w'.heap[gb236]? = some (.cells #[.int .u64 a0_0, .int .i64 a0_1, .int .i64 a0_2, .int .i64 a0_3] 31 (0, 0))) ∧ Aside0 (Below w.heap.size w w'))
      case atStart => exact ⟨(x3_1), H', ⟨Nat.le_refl _⟩, ⟨by (with_reducible repeat (first | apply Kd.R_alloc | apply Kd.R_drewN | apply Kd.R_drew)); exact HO_3.out⟩, ⟨by exact BK236.out⟩, ⟨by repeat (first | (with_reducible first | exact HB.out | apply Ext.ba | apply Ext.bn | apply Ext.bd | refine Ext.bs ?_ GE236.out) | exact HB.out | exact .refl _ _)⟩⟩
      case round =>
       clear H'
       try clear c1
       try clear c2
       try clear p2
       try clear c3
       try clear c4
       try clear p6
       try clear c14
       try clear c14b0
       try clear c15
       try clear c15b0
       try clear c18
       try clear hcz13_0
       try clear hcz13_1
       try clear hcz13_2
       try clear hcz13_3
       try clear hcz8_0
       try clear hcz8_1
       try clear hcz8_2
       try clear hcz8_3
       try clear hfz13_0
       try clear hfz13_1
       try clear hfz13_2
       try clear hfz13_3
       try clear hfz8_0
       try clear hfz8_1
       try clear hfz8_2
       try clear hfz8_3
       try clear p2
       obtain ⟨x3_2, HA, HK2, HO_3, BK236, HB⟩ := hrel
       cases gk with
       | zero => exact absurd HA.out (fun h_ => by (have h2_ : (none : Option (List Int)) = some r := h_; cases h2_))
       | succ k2 =>
        have H := HA.out
        clear HA
        rw [terrierref05_Encode.l1_eq] at H
        by_cases c22 : (x3_2.length : Int) < 244
        ·
         rw [if_pos c22] at H
         have c22b0 : decide ((x3_2.length : Int) < 244) = true := decide_eq_true c22
         have c22b1 : decide (x3_2.length < 244) = true := decide_eq_true (by omega)
         clear c22
         by_cases c23 : x3_2.length < 140737488355328
         ·
          rw [if_pos c23] at H
          have LMc23 := Aside0.mk c23
          clear c23
          obtain ⟨y255, hy255⟩ : ∃ y_ : List Int, y_ = (x3_2 ++ [0]) := ⟨_, rfl⟩
          replace H : (terrierref05_Encode.l1 k2 y255 a0_0 a0_1 a0_2 a0_3) = some r := by first | (rw [hy255]; with_reducible exact H) | (have H2_ := (Option.bind_some _ _).symm.trans H; rw [hy255]; with_reducible exact H2_) | (have H2_ := (Option.bind_some _ _).symm.trans H; with_reducible exact H2_) | with_reducible exact H | (rw [hy255]; exact H) | exact H
          have Ny255 := Aside0.mk hy255
          clear hy255
          have H' := Aside0.mk H
          clear H
          obtain ⟨Ao24, co24, eo24⟩ := Kd.R_slice HO_3.out
          subst eo24
          go_wp2_with (first | ((with_reducible refine gate_builtin (b := .append) (xs := #[.tmp 32, .tmp 33]) rfl ?_); at_builtin; refine Kd.R_append (Kd.int .u8) (w0 := w) w.heap.size rfl (.tmp 32) (.tmp 33) 26 5 (.int .u8 0) 1 rfl Try.underlying26 info5 rfl (by decide) (by omega) (.slice Ao24 x3_2.length co24) x3_2 0 [.int .u8 0] (fun _ => True) (fun _ => False) rfl rfl ?aP (fun _ hk => hk.elim) ?aF ?aO ?aB ?aS ?aL ?_; (case aP => exact rfl); (case aB => exact (by repeat (first | (with_reducible first | exact HB.out | apply Ext.ba | apply Ext.bn | apply Ext.bd | refine Ext.bs ?_ GE236.out) | exact HB.out | exact .refl _ _))); (case aF => exact (fun _ _ => trivial)); (case aO => exact (Ext.nR HO_3.out)); (case aS => exact (below_size (by repeat (first | (with_reducible first | exact HB.out | apply Ext.ba | apply Ext.bn | apply Ext.bd | refine Ext.bs ?_ GE236.out) | exact HB.out | exact .refl _ _)))); (case aL => have := LMc23.out; omega); intro v256 w25 ho hb hg hat; rw [← Ny255.out] at ho; have n0_ := Ext.a (blk_grown BK236.out hg (Kd.R_ne HO_3.out BK236.out (by decide))); have n1_ := Ext.a (hb); have n2_ := Ext.a (ho); clear BK236 HB HO_3; have BK236 := n0_; have HB := n1_; have HO257 := n2_; clear n0_ n1_ n2_; clear ho hb hg hat))
          go_roundg k2
          case measure => have := HK1.out; have := HK2.out; omega
          case rel => exact ⟨(y255), H', ⟨by have := HK1.out; have := HK2.out; omega⟩, ⟨by (with_reducible repeat (first | apply Kd.R_alloc | apply Kd.R_drewN | apply Kd.R_drew)); exact HO257.out⟩, ⟨by exact BK236.out⟩, ⟨by repeat (first | (with_reducible first | exact HB.out | apply Ext.ba | apply Ext.bn | apply Ext.bd | refine Ext.bs ?_ GE236.out) | exact HB.out | exact .refl _ _)⟩⟩
         · rw [if_neg c23] at H; exact absurd H (by simp)
        ·
         rw [if_neg c22] at H
         have c22b0 : decide ((x3_2.length : Int) < 244) = false := decide_eq_false c22
         have c22b1 : decide (x3_2.length < 244) = false := decide_eq_false (by omega)
         clear c22
         replace H := Option.bind_eq_some_iff.mp H
         obtain ⟨t258, A260, H⟩ := H
         replace H : (if x3_2.length + t258.length < 140737488355328 then ((terrierref02_Seal.f k2 (x3_2 ++ t258)).bind fun t264 => (some t264)) else (none)) = some r := H
         have A26 := Aside0.mk A260
         clear A260
         by_cases c27 : x3_2.length + t258.length < 140737488355328
         ·
          rw [if_pos c27] at H
          have LMc27 := Aside0.mk c27
          clear c27
          obtain ⟨y261, hy261⟩ : ∃ y_ : List Int, y_ = (x3_2 ++ t258) := ⟨_, rfl⟩
          replace H : ((terrierref02_Seal.f k2 y261).bind fun t264 => (some t264)) = some r := by first | (rw [hy261]; with_reducible exact H) | (have H2_ := (Option.bind_some _ _).symm.trans H; rw [hy261]; with_reducible exact H2_) | (have H2_ := (Option.bind_some _ _).symm.trans H; with_reducible exact H2_) | with_reducible exact H | (rw [hy261]; exact H) | exact H
          have Ny261 := Aside0.mk hy261
          clear hy261
          replace H := Option.bind_eq_some_iff.mp H
          obtain ⟨t264, A280, H⟩ := H
          replace H : (some t264) = some r := H
          have A28 := Aside0.mk A280
          clear A280
          obtain rfl := Option.some.inj H
          obtain ⟨Ao29, co29, eo29⟩ := Kd.R_slice HO_3.out
          subst eo29
          have hcz30_0 : wr.cell? ⟨gb236, 0, none⟩ = some (.int .u64 a0_0) := (blk_cell BK236.out 0).trans rfl
          have hcz30_1 : wr.cell? ⟨gb236, 1, none⟩ = some (.int .i64 a0_1) := (blk_cell BK236.out 1).trans rfl
          have hcz30_2 : wr.cell? ⟨gb236, 2, none⟩ = some (.int .i64 a0_2) := (blk_cell BK236.out 2).trans rfl
          have hcz30_3 : wr.cell? ⟨gb236, 3, none⟩ = some (.int .i64 a0_3) := (blk_cell BK236.out 3).trans rfl
          have hfz30_0 := blk_frozen BK236.out 0
          have hfz30_1 := blk_frozen BK236.out 1
          have hfz30_2 := blk_frozen BK236.out 2
          have hfz30_3 := blk_frozen BK236.out 3
          go_wp2_with (first | ((with_reducible refine gate_callee (f := 25) rfl ?_); refine goesL_ (some 38) rfl rfl Try.func25 (by kernel_rfl) rfl #[.int .u64 a0_0, .int .i64 8] rfl (by (try simp only [List.map_toArray, List.map_cons, List.map_nil]); first | done | rfl | (simp only [List.length_drop, List.length_take]; rfl)) ?_; (with_reducible refine (terrierref01_Put.calls k2 a0_0 8 t258 _ A26.out).mono ?_); rintro e w31 ⟨v259, rfl, ho0, hb⟩; refine ⟨_, rfl, ?_⟩; have n0_ := Ext.a (Kd.R_elder' (Ext.nR HO_3.out) (Kd.R_base ho0) hb); have n1_ := Ext.a (Kd.R_lower (Kd.R_new' ho0 (Kd.R_lt (Ext.nR HO_3.out))) (below_size (by repeat (first | (with_reducible first | exact HB.out | apply Ext.ba | apply Ext.bn | apply Ext.bd | refine Ext.bs ?_ GE236.out) | exact HB.out | exact .refl _ _)))); have n2_ := Ext.a (blk_below BK236.out hb); have n3_ := Ext.a (below_step (by repeat (first | (with_reducible first | exact HB.out | apply Ext.ba | apply Ext.bn | apply Ext.bd | refine Ext.bs ?_ GE236.out) | exact HB.out | exact .refl _ _)) hb); clear HO_3 BK236 HB; have HO_3 := n0_; have HO260 := n1_; have BK236 := n2_; have HB := n3_; clear n0_ n1_ n2_ n3_; (try clear hb); (try clear hb2); (try clear hk); (try clear hi); (try clear ho0); obtain ⟨Ao33, co33, eo33⟩ := Kd.R_slice HO260.out; subst eo33) | ((with_reducible refine gate_builtin (b := .append) (xs := #[.tmp 35, .tmp 38]) rfl ?_); at_builtin; refine Kd.R_append_rows (Kd.int .u8) (w0 := w) w.heap.size rfl (.tmp 35) (.tmp 38) 26 5 (.int .u8 0) 1 rfl Try.underlying26 info5 rfl (by decide) (by omega) (.slice Ao29 x3_2.length co29) x3_2 t258 _ _ _ (fun k_ => some k_ ≠ (.slice Ao33 t258.length co33 : Value).ownBlock) (fun _ => False) rfl rfl ?aO ?aR (fun _ _ h => h) (fun _ h => h.elim) ?aF ?aB ?aS ?aL ?_; (case aR => exact Ext.nC (Kd.R_reads' HO260.out).2.2); (case aB => exact (by repeat (first | (with_reducible first | exact HB.out | apply Ext.ba | apply Ext.bn | apply Ext.bd | refine Ext.bs ?_ GE236.out) | exact HB.out | exact .refl _ _))); (case aF => exact (fun k_ hk => Kd.fresh' (Kd.R_lt (Ext.nR HO260.out)) k_ hk)); (case aO => exact (Ext.nR (Kd.R_mono HO_3.out (fun _ hk => hk.2)))); (case aS => exact (below_size (by repeat (first | (with_reducible first | exact HB.out | apply Ext.ba | apply Ext.bn | apply Ext.bd | refine Ext.bs ?_ GE236.out) | exact HB.out | exact .refl _ _)))); (case aL => have := LMc27.out; omega); intro v262 w32 ho hb hg hat; rw [← Ny261.out] at ho; have n0_ := Ext.a (blk_grown BK236.out hg (Kd.R_ne HO_3.out BK236.out (by decide))); have n1_ := Ext.a (Kd.R_after (ok := (fun _ => True)) (Ext.nR HO260.out) hg hat); have n2_ := Ext.a (hb); have n3_ := Ext.a (ho); clear BK236 HO260 HB HO_3; have BK236 := n0_; have HO260 := n1_; have HB := n2_; have HO263 := n3_; clear n0_ n1_ n2_ n3_; clear ho hb hg hat; obtain ⟨Ao34, co34, eo34⟩ := Kd.R_slice HO263.out; subst eo34) | ((with_reducible refine gate_callee (f := 16) rfl ?_); refine goesL_ (some 40) rfl rfl Try.func16 (by kernel_rfl) rfl #[.slice Ao34 y261.length co34] rfl (by (try simp only [List.map_toArray, List.map_cons, List.map_nil]); first | done | rfl | (simp only [List.length_drop, List.length_take]; rfl)) ?_; (with_reducible refine (terrierref02_Seal.calls k2 _ _ y261 t264 _ ?side1 ?side2 A28.out).mono ?_); (case side1 => exact Ext.nC (Kd.R_reads' HO263.out).2.2); (case side2 => exact (Kd.R_reads' HO263.out).2.1); rintro e w35 ⟨v265, rfl, ho0, hb⟩; refine ⟨_, rfl, ?_⟩; have n0_ := Ext.a (Kd.R_elder' (Ext.nR HO260.out) (Kd.R_base ho0) hb); have n1_ := Ext.a (Kd.R_elder' (Ext.nR HO263.out) (Kd.R_base ho0) hb); have n2_ := Ext.a (Kd.R_lower (Kd.R_new' (Kd.R_new' ho0 (Kd.R_lt (Ext.nR HO260.out))) (Kd.R_lt (Ext.nR HO263.out))) (below_size (by repeat (first | (with_reducible first | exact HB.out | apply Ext.ba | apply Ext.bn | apply Ext.bd | refine Ext.bs ?_ GE236.out) | exact HB.out | exact .refl _ _)))); have n3_ := Ext.a (blk_below BK236.out hb); have n4_ := Ext.a (below_step (by repeat (first | (with_reducible first | exact HB.out | apply Ext.ba | apply Ext.bn | apply Ext.bd | refine Ext.bs ?_ GE236.out) | exact HB.out | exact .refl _ _)) hb); clear HO260 HO263 BK236 HB; have HO260 := n0_; have HO263 := n1_; have HO266 := n2_; have BK236 := n3_; have HB := n4_; clear n0_ n1_ n2_ n3_ n4_; (try clear hb); (try clear hb2); (try clear hk); (try clear hi); (try clear ho0)))
          go_ret
          exact ⟨_, by first | rfl | (simp [errW_none, errW_some] <;> rfl) | (simp [*, errW_none, errW_some] <;> rfl), by (with_reducible repeat (first | apply Kd.R_alloc | apply Kd.R_drewN | apply Kd.R_drew)); exact Kd.R_mono HO266.out (fun _ hk => trivial), by repeat (first | (with_reducible first | exact HB.out | apply Ext.ba | apply Ext.bn | apply Ext.bd | refine Ext.bs ?_ GE236.out) | exact HB.out | exact .refl _ _)⟩
         · rw [if_neg c27] at H; exact absurd H (by simp)
  · rw [if_neg c4] at H; exact absurd H (by simp)
 · rw [if_neg c3] at H; exact absurd H (by simp)

end Go.Proofs.Ytfkihcdonddcoaa.PC
