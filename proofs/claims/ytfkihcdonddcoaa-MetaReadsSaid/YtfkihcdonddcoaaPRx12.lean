-- Written by wip/printx.py, a program of this work over the kit's print, for this claim.
import Derived.Test.YtfkihcdonddcoaaPRx0
import Derived.Test.YtfkihcdonddcoaaPRx10
import Derived.Test.YtfkihcdonddcoaaPRx11
namespace Go.Proofs.Ytfkihcdonddcoaa.PR
open Go.RowKit Go.Proofs.YtfkihcdonddcoaaW.PrintWords Go.Proofs.YtfkihcdonddcoaaW.PrintLast Go.Proofs.YtfkihcdonddcoaaW.PrintMore
attribute [local go_sem] max2_int min2_int max_two min_two max_three min_three max_four min_four   -- for this text's walks alone
attribute [local go_sem] Ext.pick_u8 Ext.pick_u32 Ext.pick_u64
set_option linter.unusedVariables false
set_option linter.unusedSimpArgs false



/-! ### terrierref05_Encode: function 15 -/
mutual
def terrierref05_Encode.l0 : Nat → List Int → (Int × Int × Int) → Int → Int → Int → Int → Int → Option (List Int)
 | 0, _, _, _, _, _, _, _ => none
 | k + 1, x3, x19, x20, x243000, x243001, x243002, x243003 => if x20 < 3 then (if 0 ≤ x20 then ((terrierref01_Put.f k (IntKind.u64.wrap (Ext.ix3 x19 x20)) 4).bind fun t255 => (if x3.length + t255.length < 140737488355328 then (terrierref05_Encode.l0 k (x3 ++ t255) x19 (wrap64 (x20 + 1)) x243000 x243001 x243002 x243003) else (none))) else (none)) else (terrierref05_Encode.l1 k x3 x243000 x243001 x243002 x243003)
def terrierref05_Encode.l1 : Nat → List Int → Int → Int → Int → Int → Option (List Int)
 | 0, _, _, _, _, _ => none
 | k + 1, x3, x243000, x243001, x243002, x243003 => if (x3.length : Int) < 244 then (if x3.length < 140737488355328 then (terrierref05_Encode.l1 k (x3 ++ [0]) x243000 x243001 x243002 x243003) else (none)) else ((terrierref01_Put.f k x243000 8).bind fun t264 => (if x3.length + t264.length < 140737488355328 then ((terrierref02_Seal.f k (x3 ++ t264)).bind fun t270 => (some t270)) else (none)))
end
def terrierref05_Encode.f (k : Nat) (a0_0 : Int) (a0_1 : Int) (a0_2 : Int) (a0_3 : Int) : Option (List Int) := (some (([9] : List Int) : List Int)).bind fun y243 => ((terrierref01_Put.f k a0_0 8).bind fun t246 => (if y243.length + t246.length < 140737488355328 then ((some (y243 ++ t246 : List Int)).bind fun y249 => (if y249.length + 5 < 140737488355328 then (terrierref05_Encode.l0 k (y249 ++ bytesOf (⟨#[84, 69, 82, 82, 1]⟩ : ByteArray)) (a0_1, a0_2, a0_3) 0 a0_0 a0_1 a0_2 a0_3) else (none))) else (none)))
set_option maxRecDepth 100000 in
theorem terrierref05_Encode.l1_eq (k : Nat) (x3 : List Int) (x243000 x243001 x243002 x243003 : Int) : terrierref05_Encode.l1 (k + 1) x3 x243000 x243001 x243002 x243003 = (if (x3.length : Int) < 244 then (if x3.length < 140737488355328 then (terrierref05_Encode.l1 k (x3 ++ [0]) x243000 x243001 x243002 x243003) else (none)) else ((terrierref01_Put.f k x243000 8).bind fun t264 => (if x3.length + t264.length < 140737488355328 then ((terrierref02_Seal.f k (x3 ++ t264)).bind fun t270 => (some t270)) else (none)))) := rfl
theorem terrierref05_Encode.mono_l : ∀ k, (∀ y0 y1 y2 y3 y4 y5 y6, LeO (terrierref05_Encode.l0 k y0 y1 y2 y3 y4 y5 y6) (terrierref05_Encode.l0 (k + 1) y0 y1 y2 y3 y4 y5 y6)) ∧ (∀ y0 y1 y2 y3 y4, LeO (terrierref05_Encode.l1 k y0 y1 y2 y3 y4) (terrierref05_Encode.l1 (k + 1) y0 y1 y2 y3 y4))
 | 0 => ⟨fun _ _ _ _ _ _ _ r h => by simp [terrierref05_Encode.l0] at h, fun _ _ _ _ _ r h => by (have h_ : (none : Option (List Int)) = some r := h; cases h_)⟩
 | k + 1 => by
  obtain ⟨ih0, ih1⟩ := terrierref05_Encode.mono_l k
  refine ⟨?_, ?_⟩
  ·
   intro y0 y1 y2 y3 y4 y5 y6
   unfold terrierref05_Encode.l0
   repeat' first
   | (with_reducible exact ih0 _ _ _ _ _ _ _)
   | (with_reducible exact ih1 _ _ _ _ _)
   | (with_reducible exact terrierref01_Put.mono _ _ _)
   | (with_reducible exact terrierref02_Seal.mono _ _)
   | (with_reducible exact LeO.refl _)
   | (with_reducible exact LeO.none _)
   | (with_reducible refine LeO.ite ?_ ?_)
   | (with_reducible refine LeO.bind ?_ (fun _ => ?_))
   | exact ih0 _ _ _ _ _ _ _
   | exact ih1 _ _ _ _ _
   | exact terrierref01_Put.mono _ _ _
   | exact terrierref02_Seal.mono _ _
   | exact LeO.none _
   | refine LeO.ite ?_ ?_
   | refine LeO.bind ?_ (fun _ => ?_)
  ·
   intro y0 y1 y2 y3 y4
   rw [terrierref05_Encode.l1_eq k, terrierref05_Encode.l1_eq (k + 1)]
   repeat' first
   | (with_reducible exact ih0 _ _ _ _ _ _ _)
   | (with_reducible exact ih1 _ _ _ _ _)
   | (with_reducible exact terrierref01_Put.mono _ _ _)
   | (with_reducible exact terrierref02_Seal.mono _ _)
   | (with_reducible exact LeO.refl _)
   | (with_reducible exact LeO.none _)
   | (with_reducible refine LeO.ite ?_ ?_)
   | (with_reducible refine LeO.bind ?_ (fun _ => ?_))
   | exact ih0 _ _ _ _ _ _ _
   | exact ih1 _ _ _ _ _
   | exact terrierref01_Put.mono _ _ _
   | exact terrierref02_Seal.mono _ _
   | exact LeO.none _
   | refine LeO.ite ?_ ?_
   | refine LeO.bind ?_ (fun _ => ?_)
theorem terrierref05_Encode.mono : ∀ a0 a1 a2 a3 k, LeO (terrierref05_Encode.f k a0 a1 a2 a3) (terrierref05_Encode.f (k + 1) a0 a1 a2 a3) := by
 intro a0 a1 a2 a3 k
 obtain ⟨ih0, ih1⟩ := terrierref05_Encode.mono_l k
 unfold terrierref05_Encode.f
 repeat' first
   | (with_reducible exact ih0 _ _ _ _ _ _ _)
   | (with_reducible exact ih1 _ _ _ _ _)
   | (with_reducible exact terrierref01_Put.mono _ _ _)
   | (with_reducible exact terrierref02_Seal.mono _ _)
   | (with_reducible exact LeO.refl _)
   | (with_reducible exact LeO.none _)
   | (with_reducible refine LeO.ite ?_ ?_)
   | (with_reducible refine LeO.bind ?_ (fun _ => ?_))
   | exact ih0 _ _ _ _ _ _ _
   | exact ih1 _ _ _ _ _
   | exact terrierref01_Put.mono _ _ _
   | exact terrierref02_Seal.mono _ _
   | exact LeO.none _
   | refine LeO.ite ?_ ?_
   | refine LeO.bind ?_ (fun _ => ?_)
set_option maxHeartbeats 8000000 in
set_option maxRecDepth 100000 in
theorem terrierref05_Encode.calls (k : Nat) (a0_0 : Int) (a0_1 : Int) (a0_2 : Int) (a0_3 : Int) (r : List Int) (w : World) (h : terrierref05_Encode.f k a0_0 a0_1 a0_2 a0_3 = some r) :
  Calls Try.prog 15 #[.agg #[.int .u64 a0_0, .int .i64 a0_1, .int .i64 a0_2, .int .i64 a0_3]] w fun e w' => ∃ v0_ : Value, e = .returned (v0_) ∧ Kd.R (Kd.int .u8) 5 w' w.heap.size (fun _ => True) v0_ r ∧ Below w.heap.size w w' := by
 have hu31 := Try.underlying31
 have hu51 := Try.underlying51
 have HB := Ext.a (Below.refl w.heap.size w)
 have H : ((some (([9] : List Int) : List Int)).bind fun y243 => ((terrierref01_Put.f k a0_0 8).bind fun t246 => (if y243.length + t246.length < 140737488355328 then ((some (y243 ++ t246 : List Int)).bind fun y249 => (if y249.length + 5 < 140737488355328 then (terrierref05_Encode.l0 k (y249 ++ bytesOf (⟨#[84, 69, 82, 82, 1]⟩ : ByteArray)) (a0_1, a0_2, a0_3) 0 a0_0 a0_1 a0_2 a0_3) else (none))) else (none)))) = some r := h
 clear h
 obtain ⟨y243, hy243⟩ : ∃ y_ : List Int, y_ = (([9] : List Int)) := ⟨_, rfl⟩
 replace H : ((terrierref01_Put.f k a0_0 8).bind fun t246 => (if y243.length + t246.length < 140737488355328 then ((some (y243 ++ t246 : List Int)).bind fun y249 => (if y249.length + 5 < 140737488355328 then (terrierref05_Encode.l0 k (y249 ++ bytesOf (⟨#[84, 69, 82, 82, 1]⟩ : ByteArray)) (a0_1, a0_2, a0_3) 0 a0_0 a0_1 a0_2 a0_3) else (none))) else (none))) = some r := by first | (rw [hy243]; with_reducible exact H) | (have H2_ := (Option.bind_some _ _).symm.trans H; rw [hy243]; with_reducible exact H2_) | (have H2_ := (Option.bind_some _ _).symm.trans H; with_reducible exact H2_) | with_reducible exact H | (rw [hy243]; exact H) | exact H
 have Ny243 := Aside0.mk hy243
 clear hy243
 replace H := Option.bind_eq_some_iff.mp H
 obtain ⟨t246, A20, H⟩ := H
 replace H : (if y243.length + t246.length < 140737488355328 then ((some (y243 ++ t246 : List Int)).bind fun y249 => (if y249.length + 5 < 140737488355328 then (terrierref05_Encode.l0 k (y249 ++ bytesOf (⟨#[84, 69, 82, 82, 1]⟩ : ByteArray)) (a0_1, a0_2, a0_3) 0 a0_0 a0_1 a0_2 a0_3) else (none))) else (none)) = some r := H
 have A2 := Aside0.mk A20
 clear A20
 by_cases c3 : y243.length + t246.length < 140737488355328
 ·
  rw [if_pos c3] at H
  have LMc3 := Aside0.mk c3
  clear c3
  obtain ⟨y249, hy249⟩ : ∃ y_ : List Int, y_ = (y243 ++ t246) := ⟨_, rfl⟩
  replace H : (if y249.length + 5 < 140737488355328 then (terrierref05_Encode.l0 k (y249 ++ bytesOf (⟨#[84, 69, 82, 82, 1]⟩ : ByteArray)) (a0_1, a0_2, a0_3) 0 a0_0 a0_1 a0_2 a0_3) else (none)) = some r := by first | (rw [hy249]; with_reducible exact H) | (have H2_ := (Option.bind_some _ _).symm.trans H; rw [hy249]; with_reducible exact H2_) | (have H2_ := (Option.bind_some _ _).symm.trans H; with_reducible exact H2_) | with_reducible exact H | (rw [hy249]; exact H) | exact H
  have Ny249 := Aside0.mk hy249
  clear hy249
  by_cases c4 : y249.length + 5 < 140737488355328
  ·
   rw [if_pos c4] at H
   have LMc4 := Aside0.mk c4
   clear c4
   obtain ⟨y252, hy252⟩ : ∃ y_ : List Int, y_ = (y249 ++ bytesOf (⟨#[84, 69, 82, 82, 1]⟩ : ByteArray)) := ⟨_, rfl⟩
   replace H : (terrierref05_Encode.l0 k y252 (a0_1, a0_2, a0_3) 0 a0_0 a0_1 a0_2 a0_3) = some r := by first | (rw [hy252]; with_reducible exact H) | (have H2_ := (Option.bind_some _ _).symm.trans H; rw [hy252]; with_reducible exact H2_) | (have H2_ := (Option.bind_some _ _).symm.trans H; with_reducible exact H2_) | with_reducible exact H | (rw [hy252]; exact H) | exact H
   have Ny252 := Aside0.mk hy252
   clear hy252
   have H' := Aside0.mk H
   clear H
   go_enter Try.func15, Try.ntmps15
   go_wp2_with (first | ((with_reducible refine gate_dst (N := 1) rfl ?_); refine box_event ?hg (N := 1) ?hd (cs := #[.int .u64 a0_0, .int .i64 a0_1, .int .i64 a0_2, .int .i64 a0_3]) (t := 31) ?hr ?_; (case hd => rfl); (case hg => rfl); (case hr => first | (go_simp; done) | (go_simp; rfl)); intro gb242 hg w5 hbox hb; have n0_ := Ext.a (below_step (Ext.nB HB.out) hb); have n1_ := Ext.a (hbox); have n2_ := Ext.a ((by rw [hg]; exact (below_size (Ext.nB HB.out)) : w.heap.size ≤ gb242)); have n3_ := Ext.a ((by rw [hg]; exact (below_size (Ext.nB HB.out)) : w.heap.size ≤ gb242)); clear HB; have HB := n0_; have BK242 := n1_; have GW242 := n2_; have GE242 := n3_; clear n0_ n1_ n2_ n3_; clear hb hbox hg) | ((with_reducible refine gate_dst (N := 6) rfl ?_); refine Kd.R_lit (Kd.int .u8) _ 5 ?hg (N := 6) ?hd (xs := ([9] : List Int)) (inner := [.int .u8 9]) (ok := fun _ => True) (okp := fun _ => True) ?hr ?hp (fun _ hk => hk) trivial (Below.refl _ _) (Nat.le_refl _) (by simp) ?_; (case hd => rfl); (case hg => rfl); (case hr => first | (go_simp; done) | (go_simp; rfl)); (case hp => exact (Reps.one (show Kd.M (Kd.int .u8) _ _ _ 9 [.int .u8 9] from rfl) (Reps.none _ _))); intro v244 w6 ho7 hb hg_ hnew_; clear hg_ hnew_; (first | rw [← Ny243.out] at ho7 | (simp only [Int.reduceToNat] at ho7; rw [← Ny243.out] at ho7)); have n0_ := Ext.a (Kd.R_lower ho7 (below_size (by repeat (first | (with_reducible first | exact HB.out | apply Ext.ba | apply Ext.bn | apply Ext.bd | refine Ext.bs ?_ GE242.out) | exact HB.out | exact .refl _ _)))); have n1_ := Ext.a (blk_below BK242.out hb); have n2_ := Ext.a (below_step (by repeat (first | (with_reducible first | exact HB.out | apply Ext.ba | apply Ext.bn | apply Ext.bd | refine Ext.bs ?_ GE242.out) | exact HB.out | exact .refl _ _)) hb); clear BK242 HB; have HO245 := n0_; have BK242 := n1_; have HB := n2_; clear n0_ n1_ n2_; clear hb ho7; obtain ⟨hcz8_0, hcz8_1, hcz8_2, hcz8_3⟩ := Ext.cells4 BK242.out; obtain ⟨hfz8_0, hfz8_1, hfz8_2, hfz8_3⟩ := Ext.froz4 BK242.out) | ((with_reducible refine gate_callee (f := 25) rfl ?_); refine goesL_ (some 9) rfl rfl Try.func25 (by kernel_rfl) rfl #[.int .u64 a0_0, .int .i64 8] rfl (by (try simp only [List.map_toArray, List.map_cons, List.map_nil]); first | done | rfl | (simp only [List.length_drop, List.length_take]; rfl)) ?_; (with_reducible refine (terrierref01_Put.calls k a0_0 8 t246 _ A2.out).mono ?_); rintro e w9 ⟨v247, rfl, ho0, hb⟩; refine ⟨_, rfl, ?_⟩; have n0_ := Ext.a (Kd.R_elder' (Ext.nR HO245.out) (Kd.R_base ho0) hb); have n1_ := Ext.a (Kd.R_lower (Kd.R_new' ho0 (Kd.R_lt (Ext.nR HO245.out))) (below_size (by repeat (first | (with_reducible first | exact HB.out | apply Ext.ba | apply Ext.bn | apply Ext.bd | refine Ext.bs ?_ GE242.out) | exact HB.out | exact .refl _ _)))); have n2_ := Ext.a (blk_below BK242.out hb); have n3_ := Ext.a (below_step (by repeat (first | (with_reducible first | exact HB.out | apply Ext.ba | apply Ext.bn | apply Ext.bd | refine Ext.bs ?_ GE242.out) | exact HB.out | exact .refl _ _)) hb); clear HO245 BK242 HB; have HO245 := n0_; have HO248 := n1_; have BK242 := n2_; have HB := n3_; clear n0_ n1_ n2_ n3_; (try clear hb); (try clear hb2); (try clear hk); (try clear hi); (try clear ho0); obtain ⟨Ao11, co11, eo11⟩ := Kd.R_slice HO248.out; subst eo11) | ((with_reducible refine gate_builtin (b := .append) (xs := #[.tmp 6, .tmp 9]) rfl ?_); at_builtin; refine Kd.R_append_rows (Kd.int .u8) (w0 := w) w.heap.size rfl (.tmp 6) (.tmp 9) 26 5 (.int .u8 0) 1 rfl Try.underlying26 info5 rfl (by decide) (by omega) v244 y243 t246 _ _ _ (fun k_ => some k_ ≠ (.slice Ao11 t246.length co11 : Value).ownBlock) (fun _ => False) rfl rfl ?aO ?aR (fun _ _ h => h) (fun _ h => h.elim) ?aF ?aB ?aS ?aL ?_; (case aR => exact Ext.nC (Kd.R_reads' HO248.out).2.2); (case aB => exact (by repeat (first | (with_reducible first | exact HB.out | apply Ext.ba | apply Ext.bn | apply Ext.bd | refine Ext.bs ?_ GE242.out) | exact HB.out | exact .refl _ _))); (case aF => exact (fun k_ hk => Kd.fresh' (Kd.R_lt (Ext.nR HO248.out)) k_ hk)); (case aO => exact (Ext.nR (Kd.R_mono HO245.out (fun _ hk => hk.2)))); (case aS => exact (below_size (by repeat (first | (with_reducible first | exact HB.out | apply Ext.ba | apply Ext.bn | apply Ext.bd | refine Ext.bs ?_ GE242.out) | exact HB.out | exact .refl _ _)))); (case aL => have := LMc3.out; omega); intro v250 w10 ho hb hg hat; rw [← Ny249.out] at ho; have n0_ := Ext.a (blk_grown BK242.out hg (Kd.R_ne HO245.out BK242.out (by decide))); have n1_ := Ext.a (Kd.R_after (ok := (fun _ => True)) (Ext.nR HO248.out) hg hat); have n2_ := Ext.a (hb); have n3_ := Ext.a (ho); clear BK242 HO248 HB HO245; have BK242 := n0_; have HO248 := n1_; have HB := n2_; have HO251 := n3_; clear n0_ n1_ n2_ n3_; clear ho hb hg hat) | (at_builtin; refine print_append_str (w0 := w) w.heap.size rfl (.tmp 11) _ 26 9 5 rfl Try.underlying26 Try.underlying9 info5 v250 y249 (⟨#[84, 69, 82, 82, 1]⟩ : ByteArray) rfl rfl ?aO ?aB ?aS ?aL ?_; (case aB => exact (by repeat (first | (with_reducible first | exact HB.out | apply Ext.ba | apply Ext.bn | apply Ext.bd | refine Ext.bs ?_ GE242.out) | exact HB.out | exact .refl _ _))); (case aO => exact (Kd.own_of_R (Ext.nR HO251.out))); (case aS => exact (below_size (by repeat (first | (with_reducible first | exact HB.out | apply Ext.ba | apply Ext.bn | apply Ext.bd | refine Ext.bs ?_ GE242.out) | exact HB.out | exact .refl _ _)))); (case aL => have hsz_ : (⟨#[84, 69, 82, 82, 1]⟩ : ByteArray).size = 5 := rfl; have := LMc4.out; omega); intro v253 w12 ho0 hb hg; have ho := Kd.R_of_own (h1 := fun _ => rfl) (ok := fun _ => True) ho0 (fun _ _ => trivial); clear ho0; have hat := True.intro; rw [← Ny252.out] at ho; change Kd.R (Kd.int .u8) 5 w12 w.heap.size (fun _ => True) v253 y252 at ho; have n0_ := Ext.a (blk_grown BK242.out hg (Kd.R_ne HO251.out BK242.out (by decide))); have n1_ := Ext.a (hb); have n2_ := Ext.a (ho); clear BK242 HB HO251; have BK242 := n0_; have HB := n1_; have HO254 := n2_; clear n0_ n1_ n2_; clear ho hb hg hat; obtain ⟨hcz13_0, hcz13_1, hcz13_2, hcz13_3⟩ := Ext.cells4 BK242.out; obtain ⟨hfz13_0, hfz13_1, hfz13_2, hfz13_3⟩ := Ext.froz4 BK242.out))
   go_loopg [3, 20] k (fun kq v3 v20 w' => ∃ (x3_1 : List Int) (x20_1 : Int), v20 = .int .i64 x20_1 ∧ Aside0 (terrierref05_Encode.l0 kq x3_1 (a0_1, a0_2, a0_3) x20_1 a0_0 a0_1 a0_2 a0_3 = some r) ∧ Aside0 (kq ≤ k) ∧ Aside0 (Kd.R (Kd.int .u8) 5 w' w.heap.size (fun _ => True) v3 x3_1) ∧ Aside0 (w'.heap[gb242]? = some (.cells #[.int .u64 a0_0, .int .i64 a0_1, .int .i64 a0_2, .int .i64 a0_3] 31 (0, 0))) ∧ Aside0 (Below w.heap.size w w'))
   case atStart => exact ⟨(y252), (0), (by first | rfl | (simp; done) | (simp [*]; done)), H', ⟨Nat.le_refl _⟩, ⟨by (with_reducible repeat (first | apply Kd.R_alloc | apply Kd.R_drewN | apply Kd.R_drew)); exact HO254.out⟩, ⟨by exact BK242.out⟩, ⟨by repeat (first | (with_reducible first | exact HB.out | apply Ext.ba | apply Ext.bn | apply Ext.bd | refine Ext.bs ?_ GE242.out) | exact HB.out | exact .refl _ _)⟩⟩
   case round =>
    clear H'
    try clear c1
    try clear c2
    try clear p2
    try clear c3
    try clear c4
    try clear hcz13_0
    try clear hcz13_1
    try clear hcz13_2
    try clear hcz13_3
    try clear hcz8_0
    try clear hcz8_1
    try clear hcz8_2
    try clear hcz8_3
    try clear hfz13_0
    try clear hfz13_1
    try clear hfz13_2
    try clear hfz13_3
    try clear hfz8_0
    try clear hfz8_1
    try clear hfz8_2
    try clear hfz8_3
    obtain ⟨x3_1, x20_1, rfl, HA, HK1, HO_3, BK242, HB⟩ := hrel
    cases gk with
    | zero => exact absurd HA.out (by simp [terrierref05_Encode.l0])
    | succ k1 =>
     have H := HA.out
     clear HA
     simp only [terrierref05_Encode.l0] at H
     by_cases c14 : x20_1 < 3
     ·
      rw [if_pos c14] at H
      have c14b0 : decide (x20_1 < 3) = true := decide_eq_true c14
      clear c14
      by_cases c15 : 0 ≤ x20_1
      ·
       rw [if_pos c15] at H
       have c15b0 : decide (0 ≤ x20_1) = true := decide_eq_true c15
       clear c15
       have hxa16 := Ext.ix3_run Try.underlying51 Try.underlying3 info3 (a0_1, a0_2, a0_3) x20_1 (by first | omega | exact of_decide_eq_true (by first | (with_reducible assumption) | assumption)) (by first | omega | exact of_decide_eq_true (by first | (with_reducible assumption) | assumption))
       try dsimp only at hxa16
       replace H := Option.bind_eq_some_iff.mp H
       obtain ⟨t255, A170, H⟩ := H
       replace H : (if x3_1.length + t255.length < 140737488355328 then (terrierref05_Encode.l0 k1 (x3_1 ++ t255) (a0_1, a0_2, a0_3) (wrap64 (x20_1 + 1)) a0_0 a0_1 a0_2 a0_3) else (none)) = some r := H
       have A17 := Aside0.mk A170
       clear A170
       by_cases c18 : x3_1.length + t255.length < 140737488355328
       ·
        rw [if_pos c18] at H
        have LMc18 := Aside0.mk c18
        clear c18
        obtain ⟨y258, hy258⟩ : ∃ y_ : List Int, y_ = (x3_1 ++ t255) := ⟨_, rfl⟩
        replace H : (terrierref05_Encode.l0 k1 y258 (a0_1, a0_2, a0_3) (wrap64 (x20_1 + 1)) a0_0 a0_1 a0_2 a0_3) = some r := by first | (rw [hy258]; with_reducible exact H) | (have H2_ := (Option.bind_some _ _).symm.trans H; rw [hy258]; with_reducible exact H2_) | (have H2_ := (Option.bind_some _ _).symm.trans H; with_reducible exact H2_) | with_reducible exact H | (rw [hy258]; exact H) | exact H
        have Ny258 := Aside0.mk hy258
        clear hy258
        have H' := Aside0.mk H
        clear H
        go_wp2_with (first | ((with_reducible refine gate_callee (f := 25) rfl ?_); refine goesL_ (some 26) rfl rfl Try.func25 (by kernel_rfl) rfl #[.int .u64 (IntKind.u64.wrap (Ext.ix3 (a0_1, a0_2, a0_3) x20_1)), .int .i64 4] rfl (by (try simp only [List.map_toArray, List.map_cons, List.map_nil]); first | done | rfl | (simp only [List.length_drop, List.length_take]; rfl)) ?_; (with_reducible refine (terrierref01_Put.calls k1 (IntKind.u64.wrap (Ext.ix3 (a0_1, a0_2, a0_3) x20_1)) 4 t255 _ A17.out).mono ?_); rintro e w19 ⟨v256, rfl, ho0, hb⟩; refine ⟨_, rfl, ?_⟩; have n0_ := Ext.a (Kd.R_elder' (Ext.nR HO_3.out) (Kd.R_base ho0) hb); have n1_ := Ext.a (Kd.R_lower (Kd.R_new' ho0 (Kd.R_lt (Ext.nR HO_3.out))) (below_size (by repeat (first | (with_reducible first | exact HB.out | apply Ext.ba | apply Ext.bn | apply Ext.bd | refine Ext.bs ?_ GE242.out) | exact HB.out | exact .refl _ _)))); have n2_ := Ext.a (blk_below BK242.out hb); have n3_ := Ext.a (below_step (by repeat (first | (with_reducible first | exact HB.out | apply Ext.ba | apply Ext.bn | apply Ext.bd | refine Ext.bs ?_ GE242.out) | exact HB.out | exact .refl _ _)) hb); clear HO_3 BK242 HB; have HO_3 := n0_; have HO257 := n1_; have BK242 := n2_; have HB := n3_; clear n0_ n1_ n2_ n3_; (try clear hb); (try clear hb2); (try clear hk); (try clear hi); (try clear ho0); obtain ⟨Ao21, co21, eo21⟩ := Kd.R_slice HO257.out; subst eo21) | ((with_reducible refine gate_builtin (b := .append) (xs := #[.tmp 23, .tmp 26]) rfl ?_); at_builtin; refine Kd.R_append_rows (Kd.int .u8) (w0 := w) w.heap.size rfl (.tmp 23) (.tmp 26) 26 5 (.int .u8 0) 1 rfl Try.underlying26 info5 rfl (by decide) (by omega) u3 x3_1 t255 _ _ _ (fun k_ => some k_ ≠ (.slice Ao21 t255.length co21 : Value).ownBlock) (fun _ => False) rfl rfl ?aO ?aR (fun _ _ h => h) (fun _ h => h.elim) ?aF ?aB ?aS ?aL ?_; (case aR => exact Ext.nC (Kd.R_reads' HO257.out).2.2); (case aB => exact (by repeat (first | (with_reducible first | exact HB.out | apply Ext.ba | apply Ext.bn | apply Ext.bd | refine Ext.bs ?_ GE242.out) | exact HB.out | exact .refl _ _))); (case aF => exact (fun k_ hk => Kd.fresh' (Kd.R_lt (Ext.nR HO257.out)) k_ hk)); (case aO => exact (Ext.nR (Kd.R_mono HO_3.out (fun _ hk => hk.2)))); (case aS => exact (below_size (by repeat (first | (with_reducible first | exact HB.out | apply Ext.ba | apply Ext.bn | apply Ext.bd | refine Ext.bs ?_ GE242.out) | exact HB.out | exact .refl _ _)))); (case aL => have := LMc18.out; omega); intro v259 w20 ho hb hg hat; rw [← Ny258.out] at ho; have n0_ := Ext.a (blk_grown BK242.out hg (Kd.R_ne HO_3.out BK242.out (by decide))); have n1_ := Ext.a (Kd.R_after (ok := (fun _ => True)) (Ext.nR HO257.out) hg hat); have n2_ := Ext.a (hb); have n3_ := Ext.a (ho); clear BK242 HO257 HB HO_3; have BK242 := n0_; have HO257 := n1_; have HB := n2_; have HO260 := n3_; clear n0_ n1_ n2_ n3_; clear ho hb hg hat))
        go_roundg k1
        case measure => have := HK1.out; omega
        case rel => exact ⟨(y258), (wrap64 (x20_1 + 1)), (by first | rfl | (simp; done) | (simp [*]; done)), H', ⟨by have := HK1.out; omega⟩, ⟨by (with_reducible repeat (first | apply Kd.R_alloc | apply Kd.R_drewN | apply Kd.R_drew)); exact Kd.R_mono HO260.out (fun _ hk => trivial)⟩, ⟨by exact BK242.out⟩, ⟨by repeat (first | (with_reducible first | exact HB.out | apply Ext.ba | apply Ext.bn | apply Ext.bd | refine Ext.bs ?_ GE242.out) | exact HB.out | exact .refl _ _)⟩⟩
       · rw [if_neg c18] at H; exact absurd H (by simp)
      · rw [if_neg c15] at H; exact absurd H (by simp)
     ·
      rw [if_neg c14] at H
      have c14b0 : decide (x20_1 < 3) = false := decide_eq_false c14
      clear c14
      have H' := Aside0.mk H
      clear H
      go_wp2
      go_loopg [3] k1 (fun kq v3 w' => ∃ (x3_2 : List Int), Aside0 (terrierref05_Encode.l1 kq x3_2 a0_0 a0_1 a0_2 a0_3 = some r) ∧ Aside0 (kq ≤ k1) ∧ Aside0 (Kd.R (Kd.int .u8) 5 w' w.heap.size (fun _ => True) v3 x3_2) ∧ Aside0 (w'.heap[gb242]? = some (.cells #[.int .u64 a0_0, .int .i64 a0_1, .int .i64 a0_2, .int .i64 a0_3] 31 (0, 0))) ∧ Aside0 (Below w.heap.size w w'))
      case atStart => exact ⟨(x3_1), H', ⟨Nat.le_refl _⟩, ⟨by (with_reducible repeat (first | apply Kd.R_alloc | apply Kd.R_drewN | apply Kd.R_drew)); exact HO_3.out⟩, ⟨by exact BK242.out⟩, ⟨by repeat (first | (with_reducible first | exact HB.out | apply Ext.ba | apply Ext.bn | apply Ext.bd | refine Ext.bs ?_ GE242.out) | exact HB.out | exact .refl _ _)⟩⟩
      case round =>
       clear H'
       try clear c1
       try clear c2
       try clear p2
       try clear c3
       try clear c4
       try clear p6
       try clear c14
       try clear c14b0
       try clear c15
       try clear c15b0
       try clear c18
       try clear hcz13_0
       try clear hcz13_1
       try clear hcz13_2
       try clear hcz13_3
       try clear hcz8_0
       try clear hcz8_1
       try clear hcz8_2
       try clear hcz8_3
       try clear hfz13_0
       try clear hfz13_1
       try clear hfz13_2
       try clear hfz13_3
       try clear hfz8_0
       try clear hfz8_1
       try clear hfz8_2
       try clear hfz8_3
       try clear p2
       obtain ⟨x3_2, HA, HK2, HO_3, BK242, HB⟩ := hrel
       cases gk with
       | zero => exact absurd HA.out (fun h_ => by (have h2_ : (none : Option (List Int)) = some r := h_; cases h2_))
       | succ k2 =>
        have H := HA.out
        clear HA
        rw [terrierref05_Encode.l1_eq] at H
        by_cases c22 : (x3_2.length : Int) < 244
        ·
         rw [if_pos c22] at H
         have c22b0 : decide ((x3_2.length : Int) < 244) = true := decide_eq_true c22
         have c22b1 : decide (x3_2.length < 244) = true := decide_eq_true (by omega)
         clear c22
         by_cases c23 : x3_2.length < 140737488355328
         ·
          rw [if_pos c23] at H
          have LMc23 := Aside0.mk c23
          clear c23
          obtain ⟨y261, hy261⟩ : ∃ y_ : List Int, y_ = (x3_2 ++ [0]) := ⟨_, rfl⟩
          replace H : (terrierref05_Encode.l1 k2 y261 a0_0 a0_1 a0_2 a0_3) = some r := by first | (rw [hy261]; with_reducible exact H) | (have H2_ := (Option.bind_some _ _).symm.trans H; rw [hy261]; with_reducible exact H2_) | (have H2_ := (Option.bind_some _ _).symm.trans H; with_reducible exact H2_) | with_reducible exact H | (rw [hy261]; exact H) | exact H
          have Ny261 := Aside0.mk hy261
          clear hy261
          have H' := Aside0.mk H
          clear H
          obtain ⟨Ao24, co24, eo24⟩ := Kd.R_slice HO_3.out
          subst eo24
          go_wp2_with (first | ((with_reducible refine gate_builtin (b := .append) (xs := #[.tmp 32, .tmp 33]) rfl ?_); at_builtin; refine Kd.R_append (Kd.int .u8) (w0 := w) w.heap.size rfl (.tmp 32) (.tmp 33) 26 5 (.int .u8 0) 1 rfl Try.underlying26 info5 rfl (by decide) (by omega) (.slice Ao24 x3_2.length co24) x3_2 0 [.int .u8 0] (fun _ => True) (fun _ => False) rfl rfl ?aP (fun _ hk => hk.elim) ?aF ?aO ?aB ?aS ?aL ?_; (case aP => exact rfl); (case aB => exact (by repeat (first | (with_reducible first | exact HB.out | apply Ext.ba | apply Ext.bn | apply Ext.bd | refine Ext.bs ?_ GE242.out) | exact HB.out | exact .refl _ _))); (case aF => exact (fun _ _ => trivial)); (case aO => exact (Ext.nR HO_3.out)); (case aS => exact (below_size (by repeat (first | (with_reducible first | exact HB.out | apply Ext.ba | apply Ext.bn | apply Ext.bd | refine Ext.bs ?_ GE242.out) | exact HB.out | exact .refl _ _)))); (case aL => have := LMc23.out; omega); intro v262 w25 ho hb hg hat; rw [← Ny261.out] at ho; have n0_ := Ext.a (blk_grown BK242.out hg (Kd.R_ne HO_3.out BK242.out (by decide))); have n1_ := Ext.a (hb); have n2_ := Ext.a (ho); clear BK242 HB HO_3; have BK242 := n0_; have HB := n1_; have HO263 := n2_; clear n0_ n1_ n2_; clear ho hb hg hat))
          go_roundg k2
          case measure => have := HK1.out; have := HK2.out; omega
          case rel => exact ⟨(y261), H', ⟨by have := HK1.out; have := HK2.out; omega⟩, ⟨by (with_reducible repeat (first | apply Kd.R_alloc | apply Kd.R_drewN | apply Kd.R_drew)); exact HO263.out⟩, ⟨by exact BK242.out⟩, ⟨by repeat (first | (with_reducible first | exact HB.out | apply Ext.ba | apply Ext.bn | apply Ext.bd | refine Ext.bs ?_ GE242.out) | exact HB.out | exact .refl _ _)⟩⟩
         · rw [if_neg c23] at H; exact absurd H (by simp)
        ·
         rw [if_neg c22] at H
         have c22b0 : decide ((x3_2.length : Int) < 244) = false := decide_eq_false c22
         have c22b1 : decide (x3_2.length < 244) = false := decide_eq_false (by omega)
         clear c22
         replace H := Option.bind_eq_some_iff.mp H
         obtain ⟨t264, A260, H⟩ := H
         replace H : (if x3_2.length + t264.length < 140737488355328 then ((terrierref02_Seal.f k2 (x3_2 ++ t264)).bind fun t270 => (some t270)) else (none)) = some r := H
         have A26 := Aside0.mk A260
         clear A260
         by_cases c27 : x3_2.length + t264.length < 140737488355328
         ·
          rw [if_pos c27] at H
          have LMc27 := Aside0.mk c27
          clear c27
          obtain ⟨y267, hy267⟩ : ∃ y_ : List Int, y_ = (x3_2 ++ t264) := ⟨_, rfl⟩
          replace H : ((terrierref02_Seal.f k2 y267).bind fun t270 => (some t270)) = some r := by first | (rw [hy267]; with_reducible exact H) | (have H2_ := (Option.bind_some _ _).symm.trans H; rw [hy267]; with_reducible exact H2_) | (have H2_ := (Option.bind_some _ _).symm.trans H; with_reducible exact H2_) | with_reducible exact H | (rw [hy267]; exact H) | exact H
          have Ny267 := Aside0.mk hy267
          clear hy267
          replace H := Option.bind_eq_some_iff.mp H
          obtain ⟨t270, A280, H⟩ := H
          replace H : (some t270) = some r := H
          have A28 := Aside0.mk A280
          clear A280
          obtain rfl := Option.some.inj H
          obtain ⟨Ao29, co29, eo29⟩ := Kd.R_slice HO_3.out
          subst eo29
          obtain ⟨hcz30_0, hcz30_1, hcz30_2, hcz30_3⟩ := Ext.cells4 BK242.out
          obtain ⟨hfz30_0, hfz30_1, hfz30_2, hfz30_3⟩ := Ext.froz4 BK242.out
          go_wp2_with (first | ((with_reducible refine gate_callee (f := 25) rfl ?_); refine goesL_ (some 38) rfl rfl Try.func25 (by kernel_rfl) rfl #[.int .u64 a0_0, .int .i64 8] rfl (by (try simp only [List.map_toArray, List.map_cons, List.map_nil]); first | done | rfl | (simp only [List.length_drop, List.length_take]; rfl)) ?_; (with_reducible refine (terrierref01_Put.calls k2 a0_0 8 t264 _ A26.out).mono ?_); rintro e w31 ⟨v265, rfl, ho0, hb⟩; refine ⟨_, rfl, ?_⟩; have n0_ := Ext.a (Kd.R_elder' (Ext.nR HO_3.out) (Kd.R_base ho0) hb); have n1_ := Ext.a (Kd.R_lower (Kd.R_new' ho0 (Kd.R_lt (Ext.nR HO_3.out))) (below_size (by repeat (first | (with_reducible first | exact HB.out | apply Ext.ba | apply Ext.bn | apply Ext.bd | refine Ext.bs ?_ GE242.out) | exact HB.out | exact .refl _ _)))); have n2_ := Ext.a (blk_below BK242.out hb); have n3_ := Ext.a (below_step (by repeat (first | (with_reducible first | exact HB.out | apply Ext.ba | apply Ext.bn | apply Ext.bd | refine Ext.bs ?_ GE242.out) | exact HB.out | exact .refl _ _)) hb); clear HO_3 BK242 HB; have HO_3 := n0_; have HO266 := n1_; have BK242 := n2_; have HB := n3_; clear n0_ n1_ n2_ n3_; (try clear hb); (try clear hb2); (try clear hk); (try clear hi); (try clear ho0); obtain ⟨Ao33, co33, eo33⟩ := Kd.R_slice HO266.out; subst eo33) | ((with_reducible refine gate_builtin (b := .append) (xs := #[.tmp 35, .tmp 38]) rfl ?_); at_builtin; refine Kd.R_append_rows (Kd.int .u8) (w0 := w) w.heap.size rfl (.tmp 35) (.tmp 38) 26 5 (.int .u8 0) 1 rfl Try.underlying26 info5 rfl (by decide) (by omega) (.slice Ao29 x3_2.length co29) x3_2 t264 _ _ _ (fun k_ => some k_ ≠ (.slice Ao33 t264.length co33 : Value).ownBlock) (fun _ => False) rfl rfl ?aO ?aR (fun _ _ h => h) (fun _ h => h.elim) ?aF ?aB ?aS ?aL ?_; (case aR => exact Ext.nC (Kd.R_reads' HO266.out).2.2); (case aB => exact (by repeat (first | (with_reducible first | exact HB.out | apply Ext.ba | apply Ext.bn | apply Ext.bd | refine Ext.bs ?_ GE242.out) | exact HB.out | exact .refl _ _))); (case aF => exact (fun k_ hk => Kd.fresh' (Kd.R_lt (Ext.nR HO266.out)) k_ hk)); (case aO => exact (Ext.nR (Kd.R_mono HO_3.out (fun _ hk => hk.2)))); (case aS => exact (below_size (by repeat (first | (with_reducible first | exact HB.out | apply Ext.ba | apply Ext.bn | apply Ext.bd | refine Ext.bs ?_ GE242.out) | exact HB.out | exact .refl _ _)))); (case aL => have := LMc27.out; omega); intro v268 w32 ho hb hg hat; rw [← Ny267.out] at ho; have n0_ := Ext.a (blk_grown BK242.out hg (Kd.R_ne HO_3.out BK242.out (by decide))); have n1_ := Ext.a (Kd.R_after (ok := (fun _ => True)) (Ext.nR HO266.out) hg hat); have n2_ := Ext.a (hb); have n3_ := Ext.a (ho); clear BK242 HO266 HB HO_3; have BK242 := n0_; have HO266 := n1_; have HB := n2_; have HO269 := n3_; clear n0_ n1_ n2_ n3_; clear ho hb hg hat; obtain ⟨Ao34, co34, eo34⟩ := Kd.R_slice HO269.out; subst eo34) | ((with_reducible refine gate_callee (f := 16) rfl ?_); refine goesL_ (some 40) rfl rfl Try.func16 (by kernel_rfl) rfl #[.slice Ao34 y267.length co34] rfl (by (try simp only [List.map_toArray, List.map_cons, List.map_nil]); first | done | rfl | (simp only [List.length_drop, List.length_take]; rfl)) ?_; (with_reducible refine (terrierref02_Seal.calls k2 _ _ y267 t270 _ ?side1 ?side2 A28.out).mono ?_); (case side1 => exact Ext.nC (Kd.R_reads' HO269.out).2.2); (case side2 => exact (Kd.R_reads' HO269.out).2.1); rintro e w35 ⟨v271, rfl, ho0, hb⟩; refine ⟨_, rfl, ?_⟩; have n0_ := Ext.a (Kd.R_elder' (Ext.nR HO266.out) (Kd.R_base ho0) hb); have n1_ := Ext.a (Kd.R_elder' (Ext.nR HO269.out) (Kd.R_base ho0) hb); have n2_ := Ext.a (Kd.R_lower (Kd.R_new' (Kd.R_new' ho0 (Kd.R_lt (Ext.nR HO266.out))) (Kd.R_lt (Ext.nR HO269.out))) (below_size (by repeat (first | (with_reducible first | exact HB.out | apply Ext.ba | apply Ext.bn | apply Ext.bd | refine Ext.bs ?_ GE242.out) | exact HB.out | exact .refl _ _)))); have n3_ := Ext.a (blk_below BK242.out hb); have n4_ := Ext.a (below_step (by repeat (first | (with_reducible first | exact HB.out | apply Ext.ba | apply Ext.bn | apply Ext.bd | refine Ext.bs ?_ GE242.out) | exact HB.out | exact .refl _ _)) hb); clear HO266 HO269 BK242 HB; have HO266 := n0_; have HO269 := n1_; have HO272 := n2_; have BK242 := n3_; have HB := n4_; clear n0_ n1_ n2_ n3_ n4_; (try clear hb); (try clear hb2); (try clear hk); (try clear hi); (try clear ho0)))
          go_ret
          exact ⟨_, by first | rfl | (simp [errW_none, errW_some] <;> rfl) | (simp [*, errW_none, errW_some] <;> rfl), by (with_reducible repeat (first | apply Kd.R_alloc | apply Kd.R_drewN | apply Kd.R_drew)); exact Kd.R_mono HO272.out (fun _ hk => trivial), by repeat (first | (with_reducible first | exact HB.out | apply Ext.ba | apply Ext.bn | apply Ext.bd | refine Ext.bs ?_ GE242.out) | exact HB.out | exact .refl _ _)⟩
         · rw [if_neg c27] at H; exact absurd H (by simp)
  · rw [if_neg c4] at H; exact absurd H (by simp)
 · rw [if_neg c3] at H; exact absurd H (by simp)



/-! ### terrierref02_Open: function 32 -/
def terrierref02_Open.f (k : Nat) (l0 : List Int) : Option (List Int × Int) := if (l0.length : Int) < 4 then (some (([] : List Int), 3)) else (if 4 ≤ (l0.length : Int) then ((some (l0.drop 4 : List Int)).bind fun y273 => ((terrierref02_Seal.f k y273).bind fun t277 => ((terrierref01_Same.f t277 l0).bind fun t280 => (if t280 = true then ((terrierref01_Twin.f y273).bind fun t285 => (some (t285, 0))) else (some (([] : List Int), 6)))))) else (none))
theorem terrierref02_Open.mono : ∀ a0 k, LeO (terrierref02_Open.f k a0) (terrierref02_Open.f (k + 1) a0) := by
 intro a0 k
 unfold terrierref02_Open.f
 repeat' first
   | (with_reducible exact terrierref02_Seal.mono _ _)
   | (with_reducible exact LeO.refl _)
   | (with_reducible exact LeO.none _)
   | (with_reducible refine LeO.ite ?_ ?_)
   | (with_reducible refine LeO.bind ?_ (fun _ => ?_))
   | exact terrierref02_Seal.mono _ _
   | exact LeO.none _
   | refine LeO.ite ?_ ?_
   | refine LeO.bind ?_ (fun _ => ?_)
set_option maxHeartbeats 8000000 in
set_option maxRecDepth 100000 in
theorem terrierref02_Open.calls (k : Nat) (A0 : Option Addr) (c0 : Nat) (l0 : List Int) (r1 : List Int) (r2 : Int) (w : World) (hr0 : Kd.C (Kd.int .u8) w A0 l0.length l0) (hc0 : l0.length ≤ c0) (h : terrierref02_Open.f k l0 = some (r1, r2)) :
  Calls Try.prog 32 #[.slice A0 l0.length c0] w fun e w' => ∃ v0_ : Value, e = .returned (.tuple #[v0_, .int .i64 r2]) ∧ Kd.R (Kd.int .u8) 5 w' w.heap.size (fun _ => True) v0_ r1 ∧ Below w.heap.size w w' := by
 have HR0 := Aside0.mk hr0
 have HC0 := Aside0.mk hc0
 clear hr0 hc0
 have HB := Ext.a (Below.refl w.heap.size w)
 have H : (if (l0.length : Int) < 4 then (some (([] : List Int), 3)) else (if 4 ≤ (l0.length : Int) then ((some (l0.drop 4 : List Int)).bind fun y273 => ((terrierref02_Seal.f k y273).bind fun t277 => ((terrierref01_Same.f t277 l0).bind fun t280 => (if t280 = true then ((terrierref01_Twin.f y273).bind fun t285 => (some (t285, 0))) else (some (([] : List Int), 6)))))) else (none))) = some (r1, r2) := h
 clear h
 by_cases c2 : (l0.length : Int) < 4
 ·
  rw [if_pos c2] at H
  have c2b0 : decide ((l0.length : Int) < 4) = true := decide_eq_true c2
  have c2b1 : decide (l0.length < 4) = true := decide_eq_true (by omega)
  clear c2
  simp only [Option.some.injEq, Prod.mk.injEq] at H
  obtain ⟨rfl, rfl⟩ := H
  go_enter Try.func32, Try.ntmps32
  go_wp2
  go_ret2
  exact ⟨_, by first | rfl | (simp [errW_none, errW_some] <;> rfl) | (simp [*, errW_none, errW_some] <;> rfl), by first | exact Kd.R_nil _ _ _ _ _ | exact Kd.N_nil _ _ _ _ _ | exact Kd.V_nil _ _ _ _ _ | exact Kd.Q_nil _ _ _ _ _ | exact Kd.S_nil _ _ _ _ _, by repeat (first | (with_reducible first | exact HB.out | apply Ext.ba | apply Ext.bn | apply Ext.bd) | exact HB.out | exact .refl _ _)⟩
 ·
  rw [if_neg c2] at H
  have c2b0 : decide ((l0.length : Int) < 4) = false := decide_eq_false c2
  have c2b1 : decide (l0.length < 4) = false := decide_eq_false (by omega)
  clear c2
  by_cases c3 : 4 ≤ (l0.length : Int)
  ·
   rw [if_pos c3] at H
   have c3b0 := eq_true c3
   have c3b1 : decide (4 ≤ (l0.length : Int)) = true := decide_eq_true c3
   clear c3
   obtain ⟨y273, hy273⟩ : ∃ y_ : List Int, y_ = (l0.drop 4) := ⟨_, rfl⟩
   replace H : ((terrierref02_Seal.f k y273).bind fun t277 => ((terrierref01_Same.f t277 l0).bind fun t280 => (if t280 = true then ((terrierref01_Twin.f y273).bind fun t285 => (some (t285, 0))) else (some (([] : List Int), 6))))) = some (r1, r2) := by first | (rw [hy273]; with_reducible exact H) | (have H2_ := (Option.bind_some _ _).symm.trans H; rw [hy273]; with_reducible exact H2_) | (have H2_ := (Option.bind_some _ _).symm.trans H; with_reducible exact H2_) | with_reducible exact H | (rw [hy273]; exact H) | exact H
   have Ny273 := Aside0.mk hy273
   clear hy273
   replace H := Option.bind_eq_some_iff.mp H
   obtain ⟨t277, A40, H⟩ := H
   replace H : ((terrierref01_Same.f t277 l0).bind fun t280 => (if t280 = true then ((terrierref01_Twin.f y273).bind fun t285 => (some (t285, 0))) else (some (([] : List Int), 6)))) = some (r1, r2) := H
   have A4 := Aside0.mk A40
   clear A40
   replace H := Option.bind_eq_some_iff.mp H
   obtain ⟨t280, A50, H⟩ := H
   replace H : (if t280 = true then ((terrierref01_Twin.f y273).bind fun t285 => (some (t285, 0))) else (some (([] : List Int), 6))) = some (r1, r2) := H
   have A5 := Aside0.mk A50
   clear A50
   by_cases c6 : t280 = true
   ·
    subst c6
    have H1 : ((terrierref01_Twin.f y273).bind fun t285 => (some (t285, 0))) = some (r1, r2) := by rw [if_pos rfl] at H; exact H
    clear H
    have H := H1
    clear H1
    replace H := Option.bind_eq_some_iff.mp H
    obtain ⟨t285, A70, H⟩ := H
    replace H : (some (t285, 0)) = some (r1, r2) := H
    have A7 := Aside0.mk A70
    clear A70
    simp only [Option.some.injEq, Prod.mk.injEq] at H
    obtain ⟨rfl, rfl⟩ := H
    have q8 : (4 : Int) ≤ ((l0.length : Int) : Int) := of_decide_eq_true (by first | (with_reducible assumption) | assumption)
    obtain ⟨i08, hi08, _, hsz8, _⟩ := info_parts info5
    have hroom8 : l0.length ≤ c0 := HC0.out
    have hC8 : Kd.C (Kd.int .u8) _ A0 l0.length l0 := HR0.out
    have hcut8 := cut_from (P := Try.prog) 26 5 .i64 Try.underlying26 hi08 1 hsz8 A0 l0.length c0 4 (by omega) q8
    have hr8 := Kd.C_drop (m := (4 : Int).toNat) (c := c0) hC8 (by omega) hroom8
    obtain ⟨A8, hA8⟩ : ∃ A1, A1 = (if c0 = (4 : Int).toNat then A0 else (A0 : Option Addr).map (·.add ((4 : Int).toNat * 1))) := ⟨_, rfl⟩
    obtain ⟨c8, hc8⟩ : ∃ c1, c1 = c0 - (4 : Int).toNat := ⟨_, rfl⟩
    have hy8 : y273.length = l0.length - (4 : Int).toNat := (by rw [Ny273.out, List.length_drop] <;> omega)
    rw [show (l0).drop (4 : Int).toNat = y273 from Ny273.out.symm] at hr8
    replace hr8 : Kd.C (Kd.int .u8) _ A8 y273.length y273 := (by rw [hA8]; exact hr8)
    rw [← hy8, ← hA8, ← hc8] at hcut8
    have HR276 := Aside0.mk hr8
    have HC276 := Ext.a (show y273.length ≤ c8 from by rw [hy8, hc8]; exact Nat.sub_le_sub_right hroom8 _)
    clear hr8 hC8 hroom8 hi08 hsz8 hc8
    have KY8 := Aside0.mk hy8
    have KA8 := Aside0.mk hA8
    clear hy8 hA8
    replace q8 := eq_true q8
    go_enter Try.func32, Try.ntmps32
    go_wp2_with (first | ((with_reducible refine gate_callee (f := 16) rfl ?_); refine goesL_ (some 9) rfl rfl Try.func16 (by kernel_rfl) rfl #[.slice A8 y273.length c8] rfl (by (try simp only [List.map_toArray, List.map_cons, List.map_nil]); first | done | rfl | (simp only [List.length_drop, List.length_take]; rfl)) ?_; (with_reducible refine (terrierref02_Seal.calls k _ _ y273 t277 _ ?side1 ?side2 A4.out).mono ?_); (case side1 => repeat (first | exact HR276.out | exact HR276.out | (with_reducible refine Kd.C_alloc ?_ _) | (with_reducible refine Kd.C_drewN ?_ _) | (with_reducible refine Kd.C_drew ?_))); (case side2 => exact HC276.out); rintro e w9 ⟨v278, rfl, ho0, hb⟩; refine ⟨_, rfl, ?_⟩; have n0_ := Ext.a (Kd.R_lower ho0 (below_size (Ext.nB HB.out))); have n1_ := Ext.a (below_step (Ext.nB HB.out) hb); clear HB; have HO279 := n0_; have HB := n1_; clear n0_ n1_; (try clear hb); (try clear hb2); (try clear hk); (try clear hi); (try clear ho0); obtain ⟨Ao10, co10, eo10⟩ := Kd.R_slice HO279.out; subst eo10) | ((with_reducible refine gate_callee (f := 14) rfl ?_); refine goesL_ (some 11) rfl rfl Try.func14 (by kernel_rfl) rfl #[.slice Ao10 t277.length co10, .slice A0 l0.length c0] rfl (by (try simp only [List.map_toArray, List.map_cons, List.map_nil]); first | done | rfl | (simp only [List.length_drop, List.length_take]; rfl)) ?_; (with_reducible refine (terrierref01_Same.calls _ _ t277 _ _ l0 true _ ?side1 ?side2 ?side3 ?side4 A5.out).mono ?_); (case side1 => exact Ext.nC (Kd.R_reads' HO279.out).2.2); (case side2 => exact (Kd.R_reads' HO279.out).2.1); (case side3 => repeat (first | exact (Kd.C_below HR0.out HB.out) | exact HR0.out | (with_reducible refine Kd.C_alloc ?_ _) | (with_reducible refine Kd.C_drewN ?_ _) | (with_reducible refine Kd.C_drew ?_))); (case side4 => exact HC0.out); rintro e w' ⟨rfl, ⟨nd, rfl⟩⟩; refine ⟨_, rfl, ?_⟩) | ((with_reducible refine gate_callee (f := 17) rfl ?_); refine goesL_ (some 15) rfl rfl Try.func17 (by kernel_rfl) rfl #[.slice A8 y273.length c8] rfl (by (try simp only [List.map_toArray, List.map_cons, List.map_nil]); first | done | rfl | (simp only [List.length_drop, List.length_take]; rfl)) ?_; (with_reducible refine (terrierref01_Twin.calls _ _ y273 t285 _ ?side1 ?side2 A7.out).mono ?_); (case side1 => repeat (first | exact (Kd.C_below HR276.out (Ext.nB HB.out)) | exact HR276.out | (with_reducible refine Kd.C_alloc ?_ _) | (with_reducible refine Kd.C_drewN ?_ _) | (with_reducible refine Kd.C_drew ?_))); (case side2 => exact HC276.out); rintro e w11 ⟨v286, rfl, ho0, hb⟩; refine ⟨_, rfl, ?_⟩; have n0_ := Ext.a (Kd.R_elder' (Ext.nR HO279.out) (Kd.R_base ho0) hb); have n1_ := Ext.a (Kd.R_lower (Kd.R_new' ho0 (Kd.R_lt (Ext.nR HO279.out))) (below_size (Ext.nB HB.out))); have n2_ := Ext.a (below_step (Ext.nB HB.out) hb); clear HO279 HB; have HO279 := n0_; have HO287 := n1_; have HB := n2_; clear n0_ n1_ n2_; (try clear hb); (try clear hb2); (try clear hk); (try clear hi); (try clear ho0)))
    go_ret2
    exact ⟨_, by first | rfl | (simp [errW_none, errW_some] <;> rfl) | (simp [*, errW_none, errW_some] <;> rfl), by (with_reducible repeat (first | apply Kd.R_alloc | apply Kd.R_drewN | apply Kd.R_drew)); exact Kd.R_mono HO287.out (fun _ hk => trivial), by repeat (first | (with_reducible first | exact HB.out | apply Ext.ba | apply Ext.bn | apply Ext.bd) | exact HB.out | exact .refl _ _)⟩
   ·
    replace c6 := Bool.eq_false_iff.mpr c6
    subst c6
    have H1 : (some (([] : List Int), 6)) = some (r1, r2) := by rw [if_neg (show ¬ (false = true) by decide)] at H; exact H
    clear H
    have H := H1
    clear H1
    simp only [Option.some.injEq, Prod.mk.injEq] at H
    obtain ⟨rfl, rfl⟩ := H
    have q12 : (4 : Int) ≤ ((l0.length : Int) : Int) := of_decide_eq_true (by first | (with_reducible assumption) | assumption)
    obtain ⟨i012, hi012, _, hsz12, _⟩ := info_parts info5
    have hroom12 : l0.length ≤ c0 := HC0.out
    have hC12 : Kd.C (Kd.int .u8) _ A0 l0.length l0 := HR0.out
    have hcut12 := cut_from (P := Try.prog) 26 5 .i64 Try.underlying26 hi012 1 hsz12 A0 l0.length c0 4 (by omega) q12
    have hr12 := Kd.C_drop (m := (4 : Int).toNat) (c := c0) hC12 (by omega) hroom12
    obtain ⟨A12, hA12⟩ : ∃ A1, A1 = (if c0 = (4 : Int).toNat then A0 else (A0 : Option Addr).map (·.add ((4 : Int).toNat * 1))) := ⟨_, rfl⟩
    obtain ⟨c12, hc12⟩ : ∃ c1, c1 = c0 - (4 : Int).toNat := ⟨_, rfl⟩
    have hy12 : y273.length = l0.length - (4 : Int).toNat := (by rw [Ny273.out, List.length_drop] <;> omega)
    rw [show (l0).drop (4 : Int).toNat = y273 from Ny273.out.symm] at hr12
    replace hr12 : Kd.C (Kd.int .u8) _ A12 y273.length y273 := (by rw [hA12]; exact hr12)
    rw [← hy12, ← hA12, ← hc12] at hcut12
    have HR276 := Aside0.mk hr12
    have HC276 := Ext.a (show y273.length ≤ c12 from by rw [hy12, hc12]; exact Nat.sub_le_sub_right hroom12 _)
    clear hr12 hC12 hroom12 hi012 hsz12 hc12
    have KY12 := Aside0.mk hy12
    have KA12 := Aside0.mk hA12
    clear hy12 hA12
    replace q12 := eq_true q12
    go_enter Try.func32, Try.ntmps32
    go_wp2_with (first | ((with_reducible refine gate_callee (f := 16) rfl ?_); refine goesL_ (some 9) rfl rfl Try.func16 (by kernel_rfl) rfl #[.slice A12 y273.length c12] rfl (by (try simp only [List.map_toArray, List.map_cons, List.map_nil]); first | done | rfl | (simp only [List.length_drop, List.length_take]; rfl)) ?_; (with_reducible refine (terrierref02_Seal.calls k _ _ y273 t277 _ ?side1 ?side2 A4.out).mono ?_); (case side1 => repeat (first | exact HR276.out | exact HR276.out | (with_reducible refine Kd.C_alloc ?_ _) | (with_reducible refine Kd.C_drewN ?_ _) | (with_reducible refine Kd.C_drew ?_))); (case side2 => exact HC276.out); rintro e w13 ⟨v278, rfl, ho0, hb⟩; refine ⟨_, rfl, ?_⟩; have n0_ := Ext.a (Kd.R_lower ho0 (below_size (Ext.nB HB.out))); have n1_ := Ext.a (below_step (Ext.nB HB.out) hb); clear HB; have HO279 := n0_; have HB := n1_; clear n0_ n1_; (try clear hb); (try clear hb2); (try clear hk); (try clear hi); (try clear ho0); obtain ⟨Ao14, co14, eo14⟩ := Kd.R_slice HO279.out; subst eo14) | ((with_reducible refine gate_callee (f := 14) rfl ?_); refine goesL_ (some 11) rfl rfl Try.func14 (by kernel_rfl) rfl #[.slice Ao14 t277.length co14, .slice A0 l0.length c0] rfl (by (try simp only [List.map_toArray, List.map_cons, List.map_nil]); first | done | rfl | (simp only [List.length_drop, List.length_take]; rfl)) ?_; (with_reducible refine (terrierref01_Same.calls _ _ t277 _ _ l0 false _ ?side1 ?side2 ?side3 ?side4 A5.out).mono ?_); (case side1 => exact Ext.nC (Kd.R_reads' HO279.out).2.2); (case side2 => exact (Kd.R_reads' HO279.out).2.1); (case side3 => repeat (first | exact (Kd.C_below HR0.out HB.out) | exact HR0.out | (with_reducible refine Kd.C_alloc ?_ _) | (with_reducible refine Kd.C_drewN ?_ _) | (with_reducible refine Kd.C_drew ?_))); (case side4 => exact HC0.out); rintro e w' ⟨rfl, ⟨nd, rfl⟩⟩; refine ⟨_, rfl, ?_⟩))
    go_ret2
    exact ⟨_, by first | rfl | (simp [errW_none, errW_some] <;> rfl) | (simp [*, errW_none, errW_some] <;> rfl), by first | exact Kd.R_nil _ _ _ _ _ | exact Kd.N_nil _ _ _ _ _ | exact Kd.V_nil _ _ _ _ _ | exact Kd.Q_nil _ _ _ _ _ | exact Kd.S_nil _ _ _ _ _, by repeat (first | (with_reducible first | exact HB.out | apply Ext.ba | apply Ext.bn | apply Ext.bd) | exact HB.out | exact .refl _ _)⟩
  · rw [if_neg c3] at H; exact absurd H (by simp)

end Go.Proofs.Ytfkihcdonddcoaa.PR
