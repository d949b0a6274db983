-- Written by wip/printx.py, a program of this work over the kit's print, for this claim.
import Derived.Test.YtdakdlgkhnjhoaaPWx0
import Derived.Test.YtdakdlgkhnjhoaaPWx2
namespace Go.Proofs.Ytdakdlgkhnjhoaa.PW
open Go.RowKit Go.Proofs.YtdakdlgkhnjhoaaW.PrintWords Go.Proofs.YtdakdlgkhnjhoaaW.PrintLast Go.Proofs.YtdakdlgkhnjhoaaW.PrintMore
attribute [local go_sem] max2_int min2_int max_two min_two max_three min_three max_four min_four   -- for this text's walks alone
attribute [local go_sem] Ext.pick_u8 Ext.pick_u32 Ext.pick_u64
set_option linter.unusedVariables false
set_option linter.unusedSimpArgs false



/-! ### batch_twin: function 25 -/
def batch_twin.f (a0_0 : Int) (l0_1 : List Int) (l0_2 : List Int) (a0_3 : Int) (a0_4 : Int) (a0_5 : Int) (a0_6 : Int) (a0_7 : Bool) (l0_8 : List Int) (l0_9 : List Int) (a0_10 : Int) (a0_11 : Int) (a0_12 : Int) (a0_13 : Int) : Option (Int × List Int × List Int × Int × Int × Int × Int × Bool × List Int × List Int × Int × Int × Int × Int) := (record_Twin.f l0_1 l0_2 a0_3 a0_4 a0_5 a0_6).bind fun bt113 => ((record_Twin.f l0_8 l0_9 a0_10 a0_11 a0_12 a0_13).bind fun bt123 => (some (a0_0, bt113.1, bt113.2.1, bt113.2.2.1, bt113.2.2.2.1, bt113.2.2.2.2.1, bt113.2.2.2.2.2, a0_7, bt123.1, bt123.2.1, bt123.2.2.1, bt123.2.2.2.1, bt123.2.2.2.2.1, bt123.2.2.2.2.2)))
def batch_twin.T1 : Bool × List (List Nat × List Nat) := (true, [([], []), ([0], [0]), ([1], [1]), ([], []), ([3], [3]), ([4, 2], [4]), ([0, 1, 2, 3, 4], []), ([6, 2, 5, 0, 1, 2, 3, 4], [2, 6]), ([0, 1, 2, 3, 4, 5, 6, 7], []), ([8, 5, 7, 0, 1, 2, 3, 4, 5, 6, 7], [5, 8])])
def batch_twin.B1 : List Nat := [0, 1, 3, 0, 8, 31, 31, 127, 255, 511]
theorem batch_twin.tab1 : rtab .any (opsOf Try.f25 1) = batch_twin.T1 := by kernel_rfl
theorem batch_twin.bits1 : waitsOk batch_twin.T1.2 batch_twin.B1 = true := by kernel_rfl
set_option maxHeartbeats 8000000 in
set_option maxRecDepth 100000 in
theorem batch_twin.calls (a0_0 : Int) (A0_1 : Option Addr) (c0_1 : Nat) (l0_1 : List Int) (A0_2 : Option Addr) (c0_2 : Nat) (l0_2 : List Int) (a0_3 : Int) (a0_4 : Int) (a0_5 : Int) (a0_6 : Int) (a0_7 : Bool) (A0_8 : Option Addr) (c0_8 : Nat) (l0_8 : List Int) (A0_9 : Option Addr) (c0_9 : Nat) (l0_9 : List Int) (a0_10 : Int) (a0_11 : Int) (a0_12 : Int) (a0_13 : Int) (r1 : Int) (r2 : List Int) (r3 : List Int) (r4 : Int) (r5 : Int) (r6 : Int) (r7 : Int) (r8 : Bool) (r9 : List Int) (r10 : List Int) (r11 : Int) (r12 : Int) (r13 : Int) (r14 : Int) (w : World) (hr0_1 : Kd.C (Kd.int .u8) w A0_1 l0_1.length l0_1) (hc0_1 : l0_1.length ≤ c0_1) (hr0_2 : Kd.C (Kd.int .u8) w A0_2 l0_2.length l0_2) (hc0_2 : l0_2.length ≤ c0_2) (hr0_8 : Kd.C (Kd.int .u8) w A0_8 l0_8.length l0_8) (hc0_8 : l0_8.length ≤ c0_8) (hr0_9 : Kd.C (Kd.int .u8) w A0_9 l0_9.length l0_9) (hc0_9 : l0_9.length ≤ c0_9) (h : batch_twin.f a0_0 l0_1 l0_2 a0_3 a0_4 a0_5 a0_6 a0_7 l0_8 l0_9 a0_10 a0_11 a0_12 a0_13 = some (r1, r2, r3, r4, r5, r6, r7, r8, r9, r10, r11, r12, r13, r14)) :
  Calls Try.prog 25 #[.agg #[.int .i64 a0_0, .slice A0_1 l0_1.length c0_1, .slice A0_2 l0_2.length c0_2, .int .i64 a0_3, .int .i64 a0_4, .int .i64 a0_5, .int .i64 a0_6, .bool a0_7, .slice A0_8 l0_8.length c0_8, .slice A0_9 l0_9.length c0_9, .int .i64 a0_10, .int .i64 a0_11, .int .i64 a0_12, .int .i64 a0_13]] w fun e w' => ∃ v1_ v2_ v8_ v9_ : Value, e = .returned (.agg #[.int .i64 r1, v1_, v2_, .int .i64 r4, .int .i64 r5, .int .i64 r6, .int .i64 r7, .bool r8, v8_, v9_, .int .i64 r11, .int .i64 r12, .int .i64 r13, .int .i64 r14]) ∧ Kd.R (Kd.int .u8) 5 w' w.heap.size (fun k_ => some k_ ≠ (v2_ : Value).ownBlock ∧ some k_ ≠ (v8_ : Value).ownBlock ∧ some k_ ≠ (v9_ : Value).ownBlock) v1_ r2 ∧ Kd.R (Kd.int .u8) 5 w' w.heap.size (fun k_ => some k_ ≠ (v1_ : Value).ownBlock ∧ some k_ ≠ (v8_ : Value).ownBlock ∧ some k_ ≠ (v9_ : Value).ownBlock) v2_ r3 ∧ Kd.R (Kd.int .u8) 5 w' w.heap.size (fun k_ => some k_ ≠ (v1_ : Value).ownBlock ∧ some k_ ≠ (v2_ : Value).ownBlock ∧ some k_ ≠ (v9_ : Value).ownBlock) v8_ r9 ∧ Kd.R (Kd.int .u8) 5 w' w.heap.size (fun k_ => some k_ ≠ (v1_ : Value).ownBlock ∧ some k_ ≠ (v2_ : Value).ownBlock ∧ some k_ ≠ (v8_ : Value).ownBlock) v9_ r10 ∧ Below w.heap.size w w' := by
 have hu38 := Try.underlying38
 have hu36 := Try.underlying36
 have HR0_1 := Aside0.mk hr0_1
 have HC0_1 := Aside0.mk hc0_1
 clear hr0_1 hc0_1
 have HR0_2 := Aside0.mk hr0_2
 have HC0_2 := Aside0.mk hc0_2
 clear hr0_2 hc0_2
 have HR0_8 := Aside0.mk hr0_8
 have HC0_8 := Aside0.mk hc0_8
 clear hr0_8 hc0_8
 have HR0_9 := Aside0.mk hr0_9
 have HC0_9 := Aside0.mk hc0_9
 clear hr0_9 hc0_9
 have HB := Ext.a (Below.refl w.heap.size w)
 have H : ((record_Twin.f l0_1 l0_2 a0_3 a0_4 a0_5 a0_6).bind fun bt113 => ((record_Twin.f l0_8 l0_9 a0_10 a0_11 a0_12 a0_13).bind fun bt123 => (some (a0_0, bt113.1, bt113.2.1, bt113.2.2.1, bt113.2.2.2.1, bt113.2.2.2.2.1, bt113.2.2.2.2.2, a0_7, bt123.1, bt123.2.1, bt123.2.2.1, bt123.2.2.2.1, bt123.2.2.2.2.1, bt123.2.2.2.2.2)))) = some (r1, r2, r3, r4, r5, r6, r7, r8, r9, r10, r11, r12, r13, r14) := h
 clear h
 replace H := Option.bind_eq_some_iff.mp H
 obtain ⟨⟨t113, t116, t119, t120, t121, t122⟩, A20, H⟩ := H
 replace H : ((record_Twin.f l0_8 l0_9 a0_10 a0_11 a0_12 a0_13).bind fun bt123 => (some (a0_0, t113, t116, t119, t120, t121, t122, a0_7, bt123.1, bt123.2.1, bt123.2.2.1, bt123.2.2.2.1, bt123.2.2.2.2.1, bt123.2.2.2.2.2))) = some (r1, r2, r3, r4, r5, r6, r7, r8, r9, r10, r11, r12, r13, r14) := H
 have A2 := Aside0.mk A20
 clear A20
 replace H := Option.bind_eq_some_iff.mp H
 obtain ⟨⟨t123, t126, t129, t130, t131, t132⟩, A30, H⟩ := H
 replace H : (some (a0_0, t113, t116, t119, t120, t121, t122, a0_7, t123, t126, t129, t130, t131, t132)) = some (r1, r2, r3, r4, r5, r6, r7, r8, r9, r10, r11, r12, r13, r14) := H
 have A3 := Aside0.mk A30
 clear A30
 simp only [Option.some.injEq, Prod.mk.injEq] at H
 obtain ⟨rfl, rfl, rfl, rfl, rfl, rfl, rfl, rfl, rfl, rfl, rfl, rfl, rfl, rfl⟩ := H
 go_enter Try.func25, Try.ntmps25
 try go_wp2_with (first | ((with_reducible refine gate_dst (N := 1) rfl ?_); refine box_event ?hg (N := 1) ?hd (cs := #[.int .i64 a0_0, .slice A0_1 l0_1.length c0_1, .slice A0_2 l0_2.length c0_2, .int .i64 a0_3, .int .i64 a0_4, .int .i64 a0_5, .int .i64 a0_6, .bool a0_7, .slice A0_8 l0_8.length c0_8, .slice A0_9 l0_9.length c0_9, .int .i64 a0_10, .int .i64 a0_11, .int .i64 a0_12, .int .i64 a0_13]) (t := 38) ?hr ?_; (case hd => rfl); (case hg => rfl); (case hr => first | (go_simp; done) | (go_simp; rfl)); intro gb111 hg w4 hbox hb; have n0_ := Ext.a (below_step (Ext.nB HB.out) hb); have n1_ := Ext.a (hbox); have n2_ := Ext.a ((by rw [hg]; exact (below_size (Ext.nB HB.out)) : w.heap.size ≤ gb111)); have n3_ := Ext.a ((by rw [hg]; exact (below_size (Ext.nB HB.out)) : w.heap.size ≤ gb111)); clear HB; have HB := n0_; have BK111 := n1_; have GW111 := n2_; have GE111 := n3_; clear n0_ n1_ n2_ n3_; clear hb hbox hg) | ((with_reducible refine gate_dst (N := 2) rfl ?_); refine box_event ?hg (N := 2) ?hd (cs := #[.int .i64 0, .slice none 0 0, .slice none 0 0, .int .i64 0, .int .i64 0, .int .i64 0, .int .i64 0, .bool false, .slice none 0 0, .slice none 0 0, .int .i64 0, .int .i64 0, .int .i64 0, .int .i64 0]) (t := 38) ?hr ?_; (case hd => rfl); (case hg => rfl); (case hr => first | (go_simp; done) | (go_simp; rfl)); intro gb112 hg w5 hbox hb; have n0_ := Ext.a (blk_below BK111.out hb); have n1_ := Ext.a (below_step (by repeat (first | (with_reducible first | exact HB.out | apply Ext.ba | apply Ext.bn | apply Ext.bd | refine Ext.bs ?_ GE111.out) | exact HB.out | exact .refl _ _)) hb); have n2_ := Ext.a (hbox); have n3_ := Ext.a ((by rw [hg]; exact (below_size (by repeat (first | (with_reducible first | exact HB.out | apply Ext.ba | apply Ext.bn | apply Ext.bd | refine Ext.bs ?_ GE111.out) | exact HB.out | exact .refl _ _))) : w.heap.size ≤ gb112)); have n4_ := Ext.a ((by rw [hg]; exact (below_size (by repeat (first | (with_reducible first | exact HB.out | apply Ext.ba | apply Ext.bn | apply Ext.bd | refine Ext.bs ?_ GE111.out) | exact HB.out | exact .refl _ _))) : w.heap.size ≤ gb112)); have n5_ := Ext.a ((by rw [hg]; exact Nat.ne_of_lt (blk_lt BK111.out) : gb111 ≠ gb112)); have n6_ := Ext.a ((by rw [hg]; exact Nat.ne_of_gt (blk_lt BK111.out) : gb112 ≠ gb111)); clear BK111 HB; have BK111 := n0_; have HB := n1_; have BK112 := n2_; have GW112 := n3_; have GE112 := n4_; have NB111_112 := n5_; have NB112_111 := n6_; clear n0_ n1_ n2_ n3_ n4_ n5_ n6_; clear hb hbox hg))
 have n0_ := Ext.a (blk_drew BK111.out)
 have n1_ := Ext.a (blk_drew BK112.out)
 have n2_ := Ext.a (below_drew1 HB.out)
 clear BK111
 clear BK112
 clear HB
 have BK111 := n0_
 have BK112 := n1_
 have HB := n2_
 clear n0_ n1_ n2_
 refine start_ (n := 10) (S := fun w' => w'.cell? ⟨gb111, 0, none⟩ = some (.int .i64 a0_0) ∧ w'.cell? ⟨gb111, 1, none⟩ = some (.slice A0_1 l0_1.length c0_1) ∧ w'.cell? ⟨gb111, 2, none⟩ = some (.slice A0_2 l0_2.length c0_2) ∧ w'.cell? ⟨gb111, 3, none⟩ = some (.int .i64 a0_3) ∧ w'.cell? ⟨gb111, 4, none⟩ = some (.int .i64 a0_4) ∧ w'.cell? ⟨gb111, 5, none⟩ = some (.int .i64 a0_5) ∧ w'.cell? ⟨gb111, 6, none⟩ = some (.int .i64 a0_6) ∧ w'.cell? ⟨gb111, 7, none⟩ = some (.bool a0_7) ∧ w'.cell? ⟨gb111, 8, none⟩ = some (.slice A0_8 l0_8.length c0_8) ∧ w'.cell? ⟨gb111, 9, none⟩ = some (.slice A0_9 l0_9.length c0_9) ∧ w'.cell? ⟨gb111, 10, none⟩ = some (.int .i64 a0_10) ∧ w'.cell? ⟨gb111, 11, none⟩ = some (.int .i64 a0_11) ∧ w'.cell? ⟨gb111, 12, none⟩ = some (.int .i64 a0_12) ∧ w'.cell? ⟨gb111, 13, none⟩ = some (.int .i64 a0_13)) (ds := [7, 9]) #[false, false, false, false, false, false, false, false, false, false] (by kernel_rfl) rfl rfl ⟨(blk_cell BK111.out 0).trans rfl, (blk_cell BK111.out 1).trans rfl, (blk_cell BK111.out 2).trans rfl, (blk_cell BK111.out 3).trans rfl, (blk_cell BK111.out 4).trans rfl, (blk_cell BK111.out 5).trans rfl, (blk_cell BK111.out 6).trans rfl, (blk_cell BK111.out 7).trans rfl, (blk_cell BK111.out 8).trans rfl, (blk_cell BK111.out 9).trans rfl, (blk_cell BK111.out 10).trans rfl, (blk_cell BK111.out 11).trans rfl, (blk_cell BK111.out 12).trans rfl, (blk_cell BK111.out 13).trans rfl⟩ (fun hHeld => ?_); refine with_tabW batch_twin.tab1 batch_twin.bits1 (fun HT_ HW_ => ?_)
 generalize w5.drew = w6 at BK111 BK112 HB hHeld ⊢
 refine pure_ (i := 0) (N := some 3) (v := ?_) (a' := ?_) #[true, false, false, false, false, false, false, false, false, false] rfl rfl (any_of HT_.out (by kernel_rfl)) (fun _ _ _ h => h) (Or.inl ⟨by rfl, ?_⟩) ?_ ?_
 rotate_left
 · intro w'; go_simp; with_reducible rfl
 rotate_left
 · simp only [Act.put, Ext.sb, Ext.sz, Ext.ss, i64_w, i32_w]; rfl
 refine pure_ (i := 3) (N := some 6) (v := ?_) (a' := ?_) #[true, false, false, true, false, false, false, false, false, false] rfl rfl (any_of HT_.out (by kernel_rfl)) (fun _ _ _ h => h) (Or.inl ⟨by rfl, ?_⟩) ?_ ?_
 rotate_left
 · intro w'; go_simp; with_reducible rfl
 rotate_left
 · simp only [Act.put, Ext.sb, Ext.sz, Ext.ss, i64_w, i32_w]; rfl
 refine take_ (i := 1) (N := some 4) (v := ?_) (a' := ?_) #[true, true, false, true, false, false, false, false, false, false] rfl rfl (take_ofW HT_.out HW_.out (by kernel_rfl)) (fun _ _ _ h => h) (Or.inl ⟨by rfl, ?_⟩) hHeld ?_ ?_
 rotate_left
 · rintro w' ⟨s0, s1, s2, s3, s4, s5, s6, s7, s8, s9, s10, s11, s12, s13⟩; go_simp; with_reducible rfl
 rotate_left
 · simp only [Act.put, Ext.sb, Ext.sz, Ext.ss, i64_w, i32_w]; rfl
 refine take_ (i := 4) (N := some 7) (v := ?_) (a' := ?_) #[true, true, false, true, true, false, false, false, false, false] rfl rfl (take_ofW HT_.out HW_.out (by kernel_rfl)) (fun _ _ _ h => h) (Or.inl ⟨by rfl, ?_⟩) hHeld ?_ ?_
 rotate_left
 · rintro w' ⟨s0, s1, s2, s3, s4, s5, s6, s7, s8, s9, s10, s11, s12, s13⟩; go_simp; with_reducible rfl
 rotate_left
 · simp only [Act.put, Ext.sb, Ext.sz, Ext.ss, i64_w, i32_w]; rfl
 refine one_ (i := 2) (N := some 5) #[true, true, true, true, true, false, false, false, false, false] rfl rfl (one_of HT_.out (by kernel_rfl)) (by decide) (fun K hK => ?_)
 refine goes_ Try.func35 (by kernel_rfl) rfl #[.agg #[.slice A0_1 l0_1.length c0_1, .slice A0_2 l0_2.length c0_2, .int .i64 a0_3, .int .i64 a0_4, .int .i64 a0_5, .int .i64 a0_6]] (by rfl) rfl rfl (by (try simp only [List.map_toArray, List.map_cons, List.map_nil]); first | done | rfl | (simp only [List.length_drop, List.length_take]; rfl)) ?_
 with_reducible refine (record_Twin.calls _ _ l0_1 _ _ l0_2 a0_3 a0_4 a0_5 a0_6 t113 t116 t119 t120 t121 t122 _ ?side1 ?side2 ?side3 ?side4 A2.out).mono ?_
 (case side1 => repeat (first | exact (Kd.C_below HR0_1.out HB.out) | exact HR0_1.out | (with_reducible refine Kd.C_alloc ?_ _) | (with_reducible refine Kd.C_drewN ?_ _) | (with_reducible refine Kd.C_drew ?_)))
 (case side2 => exact HC0_1.out)
 (case side3 => repeat (first | exact (Kd.C_below HR0_2.out HB.out) | exact HR0_2.out | (with_reducible refine Kd.C_alloc ?_ _) | (with_reducible refine Kd.C_drewN ?_ _) | (with_reducible refine Kd.C_drew ?_)))
 (case side4 => exact HC0_2.out)
 rintro e w7 ⟨v114, v117, rfl, ho0, ho1, hb⟩
 refine ⟨_, rfl, ?_⟩
 have n0_ := Ext.a (Kd.R_lower ho0 (below_size (by repeat (first | (with_reducible first | exact HB.out | apply Ext.ba | apply Ext.bn | apply Ext.bd | refine Ext.bs ?_ GE111.out | refine Ext.bs ?_ GE112.out) | exact HB.out | exact .refl _ _))))
 have n1_ := Ext.a (Kd.R_lower ho1 (below_size (by repeat (first | (with_reducible first | exact HB.out | apply Ext.ba | apply Ext.bn | apply Ext.bd | refine Ext.bs ?_ GE111.out | refine Ext.bs ?_ GE112.out) | exact HB.out | exact .refl _ _))))
 have n2_ := Ext.a (blk_below BK111.out hb)
 have n3_ := Ext.a (blk_below BK112.out hb)
 have n4_ := Ext.a (below_step (by repeat (first | (with_reducible first | exact HB.out | apply Ext.ba | apply Ext.bn | apply Ext.bd | refine Ext.bs ?_ GE111.out | refine Ext.bs ?_ GE112.out) | exact HB.out | exact .refl _ _)) hb)
 clear BK111
 clear BK112
 clear HB
 have HO115 := n0_
 have HO118 := n1_
 have BK111 := n2_
 have BK112 := n3_
 have HB := n4_
 clear n0_ n1_ n2_ n3_ n4_
 (try clear hb)
 (try clear hb2)
 (try clear hk)
 (try clear hi)
 (try clear ho0)
 (try clear ho1)
 refine hK.out _ _ ⟨(blk_cell BK111.out 0).trans rfl, (blk_cell BK111.out 1).trans rfl, (blk_cell BK111.out 2).trans rfl, (blk_cell BK111.out 3).trans rfl, (blk_cell BK111.out 4).trans rfl, (blk_cell BK111.out 5).trans rfl, (blk_cell BK111.out 6).trans rfl, (blk_cell BK111.out 7).trans rfl, (blk_cell BK111.out 8).trans rfl, (blk_cell BK111.out 9).trans rfl, (blk_cell BK111.out 10).trans rfl, (blk_cell BK111.out 11).trans rfl, (blk_cell BK111.out 12).trans rfl, (blk_cell BK111.out 13).trans rfl⟩ (fun hHeld => ?_)
 clear hK K
 refine norm_ (a' := ?_) ?_ ?_
 rotate_left
 · show Act.put _ (some 5) _ = _; simp only [Act.put, Ext.sb, Ext.sz, Ext.ss, i64_w, i32_w]; rfl
 refine pure_ (i := 6) (N := some 9) (v := ?_) (a' := ?_) #[true, true, true, true, true, false, true, false, false, false] rfl rfl (any_of HT_.out (by kernel_rfl)) (fun _ _ _ h => h) (Or.inl ⟨by rfl, ?_⟩) ?_ ?_
 rotate_left
 · intro w'; go_simp; with_reducible rfl
 rotate_left
 · simp only [Act.put, Ext.sb, Ext.sz, Ext.ss, i64_w, i32_w]; rfl
 refine one_ (i := 5) (N := some 8) #[true, true, true, true, true, true, true, false, false, false] rfl rfl (one_of HT_.out (by kernel_rfl)) (by decide) (fun K hK => ?_)
 refine goes_ Try.func35 (by kernel_rfl) rfl #[.agg #[.slice A0_8 l0_8.length c0_8, .slice A0_9 l0_9.length c0_9, .int .i64 a0_10, .int .i64 a0_11, .int .i64 a0_12, .int .i64 a0_13]] (by rfl) rfl rfl (by (try simp only [List.map_toArray, List.map_cons, List.map_nil]); first | done | rfl | (simp only [List.length_drop, List.length_take]; rfl)) ?_
 with_reducible refine (record_Twin.calls _ _ l0_8 _ _ l0_9 a0_10 a0_11 a0_12 a0_13 t123 t126 t129 t130 t131 t132 _ ?side1 ?side2 ?side3 ?side4 A3.out).mono ?_
 (case side1 => repeat (first | exact (Kd.C_below HR0_8.out HB.out) | exact HR0_8.out | (with_reducible refine Kd.C_alloc ?_ _) | (with_reducible refine Kd.C_drewN ?_ _) | (with_reducible refine Kd.C_drew ?_)))
 (case side2 => exact HC0_8.out)
 (case side3 => repeat (first | exact (Kd.C_below HR0_9.out HB.out) | exact HR0_9.out | (with_reducible refine Kd.C_alloc ?_ _) | (with_reducible refine Kd.C_drewN ?_ _) | (with_reducible refine Kd.C_drew ?_)))
 (case side4 => exact HC0_9.out)
 rintro e w8 ⟨v124, v127, rfl, ho0, ho1, hb⟩
 refine ⟨_, rfl, ?_⟩
 have n0_ := Ext.a (Kd.R_mono (Kd.R_told (Kd.R_told (Kd.R_old (Ext.nR HO115.out) hb) (Kd.R_base ho0)) (Kd.R_base ho1)) (fun _ h_ => h_.1))
 have n1_ := Ext.a (Kd.R_mono (Kd.R_told (Kd.R_told (Kd.R_old (Ext.nR HO118.out) hb) (Kd.R_base ho0)) (Kd.R_base ho1)) (fun _ h_ => h_.1))
 have n2_ := Ext.a (Kd.R_lower (Kd.R_new' (Kd.R_new' ho0 (Kd.R_lt (Ext.nR HO115.out))) (Kd.R_lt (Ext.nR HO118.out))) (below_size (by repeat (first | (with_reducible first | exact HB.out | apply Ext.ba | apply Ext.bn | apply Ext.bd | refine Ext.bs ?_ GE111.out | refine Ext.bs ?_ GE112.out) | exact HB.out | exact .refl _ _))))
 have n3_ := Ext.a (Kd.R_lower (Kd.R_new' (Kd.R_new' ho1 (Kd.R_lt (Ext.nR HO115.out))) (Kd.R_lt (Ext.nR HO118.out))) (below_size (by repeat (first | (with_reducible first | exact HB.out | apply Ext.ba | apply Ext.bn | apply Ext.bd | refine Ext.bs ?_ GE111.out | refine Ext.bs ?_ GE112.out) | exact HB.out | exact .refl _ _))))
 have n4_ := Ext.a (blk_below BK111.out hb)
 have n5_ := Ext.a (blk_below BK112.out hb)
 have n6_ := Ext.a (below_step (by repeat (first | (with_reducible first | exact HB.out | apply Ext.ba | apply Ext.bn | apply Ext.bd | refine Ext.bs ?_ GE111.out | refine Ext.bs ?_ GE112.out) | exact HB.out | exact .refl _ _)) hb)
 clear HO115
 clear HO118
 clear BK111
 clear BK112
 clear HB
 have HO115 := n0_
 have HO118 := n1_
 have HO125 := n2_
 have HO128 := n3_
 have BK111 := n4_
 have BK112 := n5_
 have HB := n6_
 clear n0_ n1_ n2_ n3_ n4_ n5_ n6_
 (try clear hb)
 (try clear hb2)
 (try clear hk)
 (try clear hi)
 (try clear ho0)
 (try clear ho1)
 obtain ⟨Ao9, co9, eo9⟩ := Kd.R_slice HO115.out
 (first | subst eo9 | (injection eo9 with f1_ f2_ f3_; have f4_ := f1_.symm; have f5_ := f3_.symm; clear f1_ f2_ f3_; subst f4_; subst f5_))
 obtain ⟨Ao11, co11, eo11⟩ := Kd.R_slice HO118.out
 (first | subst eo11 | (injection eo11 with f1_ f2_ f3_; have f4_ := f1_.symm; have f5_ := f3_.symm; clear f1_ f2_ f3_; subst f4_; subst f5_))
 obtain ⟨Ao17, co17, eo17⟩ := Kd.R_slice HO125.out
 (first | subst eo17 | (injection eo17 with f1_ f2_ f3_; have f4_ := f1_.symm; have f5_ := f3_.symm; clear f1_ f2_ f3_; subst f4_; subst f5_))
 obtain ⟨Ao19, co19, eo19⟩ := Kd.R_slice HO128.out
 (first | subst eo19 | (injection eo19 with f1_ f2_ f3_; have f4_ := f1_.symm; have f5_ := f3_.symm; clear f1_ f2_ f3_; subst f4_; subst f5_))
 refine hK.out _ _ ⟨(blk_cell BK111.out 0).trans rfl, (blk_cell BK111.out 1).trans rfl, (blk_cell BK111.out 2).trans rfl, (blk_cell BK111.out 3).trans rfl, (blk_cell BK111.out 4).trans rfl, (blk_cell BK111.out 5).trans rfl, (blk_cell BK111.out 6).trans rfl, (blk_cell BK111.out 7).trans rfl, (blk_cell BK111.out 8).trans rfl, (blk_cell BK111.out 9).trans rfl, (blk_cell BK111.out 10).trans rfl, (blk_cell BK111.out 11).trans rfl, (blk_cell BK111.out 12).trans rfl, (blk_cell BK111.out 13).trans rfl⟩ (fun hHeld => ?_)
 clear hK K
 refine norm_ (a' := ?_) ?_ ?_
 rotate_left
 · show Act.put _ (some 8) _ = _; simp only [Act.put, Ext.sb, Ext.sz, Ext.ss, i64_w, i32_w]; rfl
 refine last_ (i := 7) (N := none) #[true, true, true, true, true, true, true, true, false, false] rfl rfl (one_of HT_.out (by kernel_rfl)) (by decide) (fun K hK => ?_)
 have hs10 : w8.cell? ⟨gb111, 1, none⟩ = some (.slice A0_1 l0_1.length c0_1) := (blk_cell BK111.out 1).trans rfl
 have hfs10 := blk_frozen BK111.out 1
 have hns10_1 := NB112_111.out
 have hms10_1 := NB111_112.out
 have hs12 : w8.cell? ⟨gb111, 2, none⟩ = some (.slice A0_2 l0_2.length c0_2) := (blk_cell BK111.out 2).trans rfl
 have hfs12 := blk_frozen BK111.out 2
 have hns12_1 := NB112_111.out
 have hms12_1 := NB111_112.out
 have hs13 : w8.cell? ⟨gb111, 3, none⟩ = some (.int .i64 a0_3) := (blk_cell BK111.out 3).trans rfl
 have hfs13 := blk_frozen BK111.out 3
 have hns13_1 := NB112_111.out
 have hms13_1 := NB111_112.out
 have hs14 : w8.cell? ⟨gb111, 4, none⟩ = some (.int .i64 a0_4) := (blk_cell BK111.out 4).trans rfl
 have hfs14 := blk_frozen BK111.out 4
 have hns14_1 := NB112_111.out
 have hms14_1 := NB111_112.out
 have hs15 : w8.cell? ⟨gb111, 5, none⟩ = some (.int .i64 a0_5) := (blk_cell BK111.out 5).trans rfl
 have hfs15 := blk_frozen BK111.out 5
 have hns15_1 := NB112_111.out
 have hms15_1 := NB111_112.out
 have hs16 : w8.cell? ⟨gb111, 6, none⟩ = some (.int .i64 a0_6) := (blk_cell BK111.out 6).trans rfl
 have hfs16 := blk_frozen BK111.out 6
 have hns16_1 := NB112_111.out
 have hms16_1 := NB111_112.out
 refine skip_ (w1 := ?_) (by rfl) rfl ?_ ?_
 rotate_left
 · go_simp; rfl
 refine hK.out _ _ ?_
 clear hK K
 refine pure_ (i := 8) (N := some 10) (v := ?_) (a' := ?_) #[true, true, true, true, true, true, true, true, true, false] rfl rfl (any_of HT_.out (by kernel_rfl)) (fun _ _ _ h => h) (Or.inl ⟨by rfl, ?_⟩) ?_ ?_
 rotate_left
 · intro w'; go_simp; with_reducible rfl
 rotate_left
 · simp only [Act.put, Ext.sb, Ext.sz, Ext.ss, i64_w, i32_w]; rfl
 refine last_ (i := 9) (N := none) #[true, true, true, true, true, true, true, true, true, true] rfl rfl (one_of HT_.out (by kernel_rfl)) (by decide) (fun K hK => ?_)
 have hs18 : w8.cell? ⟨gb111, 8, none⟩ = some (.slice A0_8 l0_8.length c0_8) := (blk_cell BK111.out 8).trans rfl
 have hfs18 := blk_frozen BK111.out 8
 have hns18_1 := NB112_111.out
 have hms18_1 := NB111_112.out
 have hs20 : w8.cell? ⟨gb111, 9, none⟩ = some (.slice A0_9 l0_9.length c0_9) := (blk_cell BK111.out 9).trans rfl
 have hfs20 := blk_frozen BK111.out 9
 have hns20_1 := NB112_111.out
 have hms20_1 := NB111_112.out
 have hs21 : w8.cell? ⟨gb111, 10, none⟩ = some (.int .i64 a0_10) := (blk_cell BK111.out 10).trans rfl
 have hfs21 := blk_frozen BK111.out 10
 have hns21_1 := NB112_111.out
 have hms21_1 := NB111_112.out
 have hs22 : w8.cell? ⟨gb111, 11, none⟩ = some (.int .i64 a0_11) := (blk_cell BK111.out 11).trans rfl
 have hfs22 := blk_frozen BK111.out 11
 have hns22_1 := NB112_111.out
 have hms22_1 := NB111_112.out
 have hs23 : w8.cell? ⟨gb111, 12, none⟩ = some (.int .i64 a0_12) := (blk_cell BK111.out 12).trans rfl
 have hfs23 := blk_frozen BK111.out 12
 have hns23_1 := NB112_111.out
 have hms23_1 := NB111_112.out
 have hs24 : w8.cell? ⟨gb111, 13, none⟩ = some (.int .i64 a0_13) := (blk_cell BK111.out 13).trans rfl
 have hfs24 := blk_frozen BK111.out 13
 have hns24_1 := NB112_111.out
 have hms24_1 := NB111_112.out
 refine skip_ (w1 := ?_) (by rfl) rfl ?_ ?_
 rotate_left
 · go_simp; rfl
 refine hK.out _ _ ?_
 clear hK K
 refine done_ (done_of HT_.out (by kernel_rfl)) ?_
 have hnb25 := NB111_112.out
 have hnc25 := NB112_111.out
 have hcz26_0 : w8.cell? ⟨gb111, 0, none⟩ = some (.int .i64 a0_0) := (blk_cell BK111.out 0).trans rfl
 have hcz26_1 : w8.cell? ⟨gb111, 1, none⟩ = some (.slice A0_1 l0_1.length c0_1) := (blk_cell BK111.out 1).trans rfl
 have hcz26_2 : w8.cell? ⟨gb111, 2, none⟩ = some (.slice A0_2 l0_2.length c0_2) := (blk_cell BK111.out 2).trans rfl
 have hcz26_3 : w8.cell? ⟨gb111, 3, none⟩ = some (.int .i64 a0_3) := (blk_cell BK111.out 3).trans rfl
 have hcz26_4 : w8.cell? ⟨gb111, 4, none⟩ = some (.int .i64 a0_4) := (blk_cell BK111.out 4).trans rfl
 have hcz26_5 : w8.cell? ⟨gb111, 5, none⟩ = some (.int .i64 a0_5) := (blk_cell BK111.out 5).trans rfl
 have hcz26_6 : w8.cell? ⟨gb111, 6, none⟩ = some (.int .i64 a0_6) := (blk_cell BK111.out 6).trans rfl
 have hcz26_7 : w8.cell? ⟨gb111, 7, none⟩ = some (.bool a0_7) := (blk_cell BK111.out 7).trans rfl
 have hcz26_8 : w8.cell? ⟨gb111, 8, none⟩ = some (.slice A0_8 l0_8.length c0_8) := (blk_cell BK111.out 8).trans rfl
 have hcz26_9 : w8.cell? ⟨gb111, 9, none⟩ = some (.slice A0_9 l0_9.length c0_9) := (blk_cell BK111.out 9).trans rfl
 have hcz26_10 : w8.cell? ⟨gb111, 10, none⟩ = some (.int .i64 a0_10) := (blk_cell BK111.out 10).trans rfl
 have hcz26_11 : w8.cell? ⟨gb111, 11, none⟩ = some (.int .i64 a0_11) := (blk_cell BK111.out 11).trans rfl
 have hcz26_12 : w8.cell? ⟨gb111, 12, none⟩ = some (.int .i64 a0_12) := (blk_cell BK111.out 12).trans rfl
 have hcz26_13 : w8.cell? ⟨gb111, 13, none⟩ = some (.int .i64 a0_13) := (blk_cell BK111.out 13).trans rfl
 have hfz26_0 := blk_frozen BK111.out 0
 have hfz26_1 := blk_frozen BK111.out 1
 have hfz26_2 := blk_frozen BK111.out 2
 have hfz26_3 := blk_frozen BK111.out 3
 have hfz26_4 := blk_frozen BK111.out 4
 have hfz26_5 := blk_frozen BK111.out 5
 have hfz26_6 := blk_frozen BK111.out 6
 have hfz26_7 := blk_frozen BK111.out 7
 have hfz26_8 := blk_frozen BK111.out 8
 have hfz26_9 := blk_frozen BK111.out 9
 have hfz26_10 := blk_frozen BK111.out 10
 have hfz26_11 := blk_frozen BK111.out 11
 have hfz26_12 := blk_frozen BK111.out 12
 have hfz26_13 := blk_frozen BK111.out 13
 have hcz27_0 : w8.cell? ⟨gb112, 0, none⟩ = some (.int .i64 0) := (blk_cell BK112.out 0).trans rfl
 have hcz27_1 : w8.cell? ⟨gb112, 1, none⟩ = some (.slice none 0 0) := (blk_cell BK112.out 1).trans rfl
 have hcz27_2 : w8.cell? ⟨gb112, 2, none⟩ = some (.slice none 0 0) := (blk_cell BK112.out 2).trans rfl
 have hcz27_3 : w8.cell? ⟨gb112, 3, none⟩ = some (.int .i64 0) := (blk_cell BK112.out 3).trans rfl
 have hcz27_4 : w8.cell? ⟨gb112, 4, none⟩ = some (.int .i64 0) := (blk_cell BK112.out 4).trans rfl
 have hcz27_5 : w8.cell? ⟨gb112, 5, none⟩ = some (.int .i64 0) := (blk_cell BK112.out 5).trans rfl
 have hcz27_6 : w8.cell? ⟨gb112, 6, none⟩ = some (.int .i64 0) := (blk_cell BK112.out 6).trans rfl
 have hcz27_7 : w8.cell? ⟨gb112, 7, none⟩ = some (.bool false) := (blk_cell BK112.out 7).trans rfl
 have hcz27_8 : w8.cell? ⟨gb112, 8, none⟩ = some (.slice none 0 0) := (blk_cell BK112.out 8).trans rfl
 have hcz27_9 : w8.cell? ⟨gb112, 9, none⟩ = some (.slice none 0 0) := (blk_cell BK112.out 9).trans rfl
 have hcz27_10 : w8.cell? ⟨gb112, 10, none⟩ = some (.int .i64 0) := (blk_cell BK112.out 10).trans rfl
 have hcz27_11 : w8.cell? ⟨gb112, 11, none⟩ = some (.int .i64 0) := (blk_cell BK112.out 11).trans rfl
 have hcz27_12 : w8.cell? ⟨gb112, 12, none⟩ = some (.int .i64 0) := (blk_cell BK112.out 12).trans rfl
 have hcz27_13 : w8.cell? ⟨gb112, 13, none⟩ = some (.int .i64 0) := (blk_cell BK112.out 13).trans rfl
 have hfz27_0 := blk_frozen BK112.out 0
 have hfz27_1 := blk_frozen BK112.out 1
 have hfz27_2 := blk_frozen BK112.out 2
 have hfz27_3 := blk_frozen BK112.out 3
 have hfz27_4 := blk_frozen BK112.out 4
 have hfz27_5 := blk_frozen BK112.out 5
 have hfz27_6 := blk_frozen BK112.out 6
 have hfz27_7 := blk_frozen BK112.out 7
 have hfz27_8 := blk_frozen BK112.out 8
 have hfz27_9 := blk_frozen BK112.out 9
 have hfz27_10 := blk_frozen BK112.out 10
 have hfz27_11 := blk_frozen BK112.out 11
 have hfz27_12 := blk_frozen BK112.out 12
 have hfz27_13 := blk_frozen BK112.out 13
 try go_wp2
 refine bodyPost_ret (results_cell_row rfl _ _ gb112 38 #[.int .i64 a0_0, .slice Ao9 t113.length co9, .slice Ao11 t116.length co11, .int .i64 t119, .int .i64 t120, .int .i64 t121, .int .i64 t122, .bool a0_7, .slice Ao17 t123.length co17, .slice Ao19 t126.length co19, .int .i64 t129, .int .i64 t130, .int .i64 t131, .int .i64 t132] (0, 0) _ rfl (by refine blk_put (cs := #[.int .i64 a0_0, .slice Ao9 t113.length co9, .slice Ao11 t116.length co11, .int .i64 t119, .int .i64 t120, .int .i64 t121, .int .i64 t122, .bool a0_7, .slice Ao17 t123.length co17, .slice Ao19 t126.length co19, .int .i64 t129, .int .i64 t130, .int .i64 t131, .int .i64 0]) ?_ 13 _ rfl; refine blk_put (cs := #[.int .i64 a0_0, .slice Ao9 t113.length co9, .slice Ao11 t116.length co11, .int .i64 t119, .int .i64 t120, .int .i64 t121, .int .i64 t122, .bool a0_7, .slice Ao17 t123.length co17, .slice Ao19 t126.length co19, .int .i64 t129, .int .i64 t130, .int .i64 0, .int .i64 0]) ?_ 12 _ rfl; refine blk_put (cs := #[.int .i64 a0_0, .slice Ao9 t113.length co9, .slice Ao11 t116.length co11, .int .i64 t119, .int .i64 t120, .int .i64 t121, .int .i64 t122, .bool a0_7, .slice Ao17 t123.length co17, .slice Ao19 t126.length co19, .int .i64 t129, .int .i64 0, .int .i64 0, .int .i64 0]) ?_ 11 _ rfl; refine blk_put (cs := #[.int .i64 a0_0, .slice Ao9 t113.length co9, .slice Ao11 t116.length co11, .int .i64 t119, .int .i64 t120, .int .i64 t121, .int .i64 t122, .bool a0_7, .slice Ao17 t123.length co17, .slice Ao19 t126.length co19, .int .i64 0, .int .i64 0, .int .i64 0, .int .i64 0]) ?_ 10 _ rfl; refine blk_put (cs := #[.int .i64 a0_0, .slice Ao9 t113.length co9, .slice Ao11 t116.length co11, .int .i64 t119, .int .i64 t120, .int .i64 t121, .int .i64 t122, .bool a0_7, .slice Ao17 t123.length co17, .slice none 0 0, .int .i64 0, .int .i64 0, .int .i64 0, .int .i64 0]) ?_ 9 _ rfl; refine blk_put (cs := #[.int .i64 a0_0, .slice Ao9 t113.length co9, .slice Ao11 t116.length co11, .int .i64 t119, .int .i64 t120, .int .i64 t121, .int .i64 t122, .bool a0_7, .slice none 0 0, .slice none 0 0, .int .i64 0, .int .i64 0, .int .i64 0, .int .i64 0]) ?_ 8 _ rfl; refine blk_put (cs := #[.int .i64 a0_0, .slice Ao9 t113.length co9, .slice Ao11 t116.length co11, .int .i64 t119, .int .i64 t120, .int .i64 t121, .int .i64 t122, .bool false, .slice none 0 0, .slice none 0 0, .int .i64 0, .int .i64 0, .int .i64 0, .int .i64 0]) ?_ 7 _ rfl; refine blk_put (cs := #[.int .i64 a0_0, .slice Ao9 t113.length co9, .slice Ao11 t116.length co11, .int .i64 t119, .int .i64 t120, .int .i64 t121, .int .i64 0, .bool false, .slice none 0 0, .slice none 0 0, .int .i64 0, .int .i64 0, .int .i64 0, .int .i64 0]) ?_ 6 _ rfl; refine blk_put (cs := #[.int .i64 a0_0, .slice Ao9 t113.length co9, .slice Ao11 t116.length co11, .int .i64 t119, .int .i64 t120, .int .i64 0, .int .i64 0, .bool false, .slice none 0 0, .slice none 0 0, .int .i64 0, .int .i64 0, .int .i64 0, .int .i64 0]) ?_ 5 _ rfl; refine blk_put (cs := #[.int .i64 a0_0, .slice Ao9 t113.length co9, .slice Ao11 t116.length co11, .int .i64 t119, .int .i64 0, .int .i64 0, .int .i64 0, .bool false, .slice none 0 0, .slice none 0 0, .int .i64 0, .int .i64 0, .int .i64 0, .int .i64 0]) ?_ 4 _ rfl; refine blk_put (cs := #[.int .i64 a0_0, .slice Ao9 t113.length co9, .slice Ao11 t116.length co11, .int .i64 0, .int .i64 0, .int .i64 0, .int .i64 0, .bool false, .slice none 0 0, .slice none 0 0, .int .i64 0, .int .i64 0, .int .i64 0, .int .i64 0]) ?_ 3 _ rfl; refine blk_put (cs := #[.int .i64 a0_0, .slice Ao9 t113.length co9, .slice none 0 0, .int .i64 0, .int .i64 0, .int .i64 0, .int .i64 0, .bool false, .slice none 0 0, .slice none 0 0, .int .i64 0, .int .i64 0, .int .i64 0, .int .i64 0]) ?_ 2 _ rfl; refine blk_put (cs := #[.int .i64 a0_0, .slice none 0 0, .slice none 0 0, .int .i64 0, .int .i64 0, .int .i64 0, .int .i64 0, .bool false, .slice none 0 0, .slice none 0 0, .int .i64 0, .int .i64 0, .int .i64 0, .int .i64 0]) ?_ 1 _ rfl; refine blk_put (cs := #[.int .i64 0, .slice none 0 0, .slice none 0 0, .int .i64 0, .int .i64 0, .int .i64 0, .int .i64 0, .bool false, .slice none 0 0, .slice none 0 0, .int .i64 0, .int .i64 0, .int .i64 0, .int .i64 0]) ?_ 0 _ rfl; refine blk_far ?_ NB112_111.out _; refine blk_far ?_ NB112_111.out _; refine blk_far ?_ NB112_111.out _; refine blk_far ?_ NB112_111.out _; refine blk_far ?_ NB112_111.out _; refine blk_far ?_ NB112_111.out _; refine blk_far ?_ NB112_111.out _; refine blk_far ?_ NB112_111.out _; refine blk_far ?_ NB112_111.out _; refine blk_far ?_ NB112_111.out _; refine blk_far ?_ NB112_111.out _; refine blk_far ?_ NB112_111.out _; exact BK112.out) Try.underlying38 rfl (by kernel_rfl)) rfl ?_
 exact ⟨_, _, _, _, by first | rfl | (simp [errW_none, errW_some] <;> rfl) | (simp [*, errW_none, errW_some] <;> rfl), by (with_reducible repeat (first | apply Kd.R_alloc | apply Kd.R_drewN | apply Kd.R_drew)); exact Kd.R_mono (Kd.R_far (p := ⟨gb112, 13, none⟩) (Kd.R_far (p := ⟨gb112, 12, none⟩) (Kd.R_far (p := ⟨gb112, 11, none⟩) (Kd.R_far (p := ⟨gb112, 10, none⟩) (Kd.R_far (p := ⟨gb112, 9, none⟩) (Kd.R_far (p := ⟨gb112, 8, none⟩) (Kd.R_far (p := ⟨gb112, 7, none⟩) (Kd.R_far (p := ⟨gb112, 6, none⟩) (Kd.R_far (p := ⟨gb112, 5, none⟩) (Kd.R_far (p := ⟨gb112, 4, none⟩) (Kd.R_far (p := ⟨gb112, 3, none⟩) (Kd.R_far (p := ⟨gb112, 2, none⟩) (Kd.R_far (p := ⟨gb112, 1, none⟩) (Kd.R_far (p := ⟨gb112, 0, none⟩) (Kd.R_far (p := ⟨gb111, 13, none⟩) (Kd.R_far (p := ⟨gb111, 12, none⟩) (Kd.R_far (p := ⟨gb111, 11, none⟩) (Kd.R_far (p := ⟨gb111, 10, none⟩) (Kd.R_far (p := ⟨gb111, 9, none⟩) (Kd.R_far (p := ⟨gb111, 8, none⟩) (Kd.R_far (p := ⟨gb111, 6, none⟩) (Kd.R_far (p := ⟨gb111, 5, none⟩) (Kd.R_far (p := ⟨gb111, 4, none⟩) (Kd.R_far (p := ⟨gb111, 3, none⟩) (Kd.R_far (p := ⟨gb111, 2, none⟩) (Kd.R_far (p := ⟨gb111, 1, none⟩) (Kd.R_types (Kd.R_types HO115.out BK111.out (by decide)) BK112.out (by decide)) (fun _ hk => hk.1.2) (.slice Ao9 t113.length co9)) (fun _ hk => hk.1.2) (.slice Ao11 t116.length co11)) (fun _ hk => hk.1.2) (.int .i64 t119)) (fun _ hk => hk.1.2) (.int .i64 t120)) (fun _ hk => hk.1.2) (.int .i64 t121)) (fun _ hk => hk.1.2) (.int .i64 t122)) (fun _ hk => hk.1.2) (.slice Ao17 t123.length co17)) (fun _ hk => hk.1.2) (.slice Ao19 t126.length co19)) (fun _ hk => hk.1.2) (.int .i64 t129)) (fun _ hk => hk.1.2) (.int .i64 t130)) (fun _ hk => hk.1.2) (.int .i64 t131)) (fun _ hk => hk.1.2) (.int .i64 t132)) (fun _ hk => hk.2) (.int .i64 a0_0)) (fun _ hk => hk.2) (.slice Ao9 t113.length co9)) (fun _ hk => hk.2) (.slice Ao11 t116.length co11)) (fun _ hk => hk.2) (.int .i64 t119)) (fun _ hk => hk.2) (.int .i64 t120)) (fun _ hk => hk.2) (.int .i64 t121)) (fun _ hk => hk.2) (.int .i64 t122)) (fun _ hk => hk.2) (.bool a0_7)) (fun _ hk => hk.2) (.slice Ao17 t123.length co17)) (fun _ hk => hk.2) (.slice Ao19 t126.length co19)) (fun _ hk => hk.2) (.int .i64 t129)) (fun _ hk => hk.2) (.int .i64 t130)) (fun _ hk => hk.2) (.int .i64 t131)) (fun _ hk => hk.2) (.int .i64 t132)) (fun _ hk => ⟨hk.1.1.1.1, ⟨hk.1.1.1.2, hk.1.1.2⟩⟩), by (with_reducible repeat (first | apply Kd.R_alloc | apply Kd.R_drewN | apply Kd.R_drew)); exact Kd.R_mono (Kd.R_far (p := ⟨gb112, 13, none⟩) (Kd.R_far (p := ⟨gb112, 12, none⟩) (Kd.R_far (p := ⟨gb112, 11, none⟩) (Kd.R_far (p := ⟨gb112, 10, none⟩) (Kd.R_far (p := ⟨gb112, 9, none⟩) (Kd.R_far (p := ⟨gb112, 8, none⟩) (Kd.R_far (p := ⟨gb112, 7, none⟩) (Kd.R_far (p := ⟨gb112, 6, none⟩) (Kd.R_far (p := ⟨gb112, 5, none⟩) (Kd.R_far (p := ⟨gb112, 4, none⟩) (Kd.R_far (p := ⟨gb112, 3, none⟩) (Kd.R_far (p := ⟨gb112, 2, none⟩) (Kd.R_far (p := ⟨gb112, 1, none⟩) (Kd.R_far (p := ⟨gb112, 0, none⟩) (Kd.R_far (p := ⟨gb111, 13, none⟩) (Kd.R_far (p := ⟨gb111, 12, none⟩) (Kd.R_far (p := ⟨gb111, 11, none⟩) (Kd.R_far (p := ⟨gb111, 10, none⟩) (Kd.R_far (p := ⟨gb111, 9, none⟩) (Kd.R_far (p := ⟨gb111, 8, none⟩) (Kd.R_far (p := ⟨gb111, 6, none⟩) (Kd.R_far (p := ⟨gb111, 5, none⟩) (Kd.R_far (p := ⟨gb111, 4, none⟩) (Kd.R_far (p := ⟨gb111, 3, none⟩) (Kd.R_far (p := ⟨gb111, 2, none⟩) (Kd.R_far (p := ⟨gb111, 1, none⟩) (Kd.R_types (Kd.R_types HO118.out BK111.out (by decide)) BK112.out (by decide)) (fun _ hk => hk.1.2) (.slice Ao9 t113.length co9)) (fun _ hk => hk.1.2) (.slice Ao11 t116.length co11)) (fun _ hk => hk.1.2) (.int .i64 t119)) (fun _ hk => hk.1.2) (.int .i64 t120)) (fun _ hk => hk.1.2) (.int .i64 t121)) (fun _ hk => hk.1.2) (.int .i64 t122)) (fun _ hk => hk.1.2) (.slice Ao17 t123.length co17)) (fun _ hk => hk.1.2) (.slice Ao19 t126.length co19)) (fun _ hk => hk.1.2) (.int .i64 t129)) (fun _ hk => hk.1.2) (.int .i64 t130)) (fun _ hk => hk.1.2) (.int .i64 t131)) (fun _ hk => hk.1.2) (.int .i64 t132)) (fun _ hk => hk.2) (.int .i64 a0_0)) (fun _ hk => hk.2) (.slice Ao9 t113.length co9)) (fun _ hk => hk.2) (.slice Ao11 t116.length co11)) (fun _ hk => hk.2) (.int .i64 t119)) (fun _ hk => hk.2) (.int .i64 t120)) (fun _ hk => hk.2) (.int .i64 t121)) (fun _ hk => hk.2) (.int .i64 t122)) (fun _ hk => hk.2) (.bool a0_7)) (fun _ hk => hk.2) (.slice Ao17 t123.length co17)) (fun _ hk => hk.2) (.slice Ao19 t126.length co19)) (fun _ hk => hk.2) (.int .i64 t129)) (fun _ hk => hk.2) (.int .i64 t130)) (fun _ hk => hk.2) (.int .i64 t131)) (fun _ hk => hk.2) (.int .i64 t132)) (fun _ hk => ⟨hk.1.1.1.1, ⟨hk.1.1.1.2, hk.1.1.2⟩⟩), by (with_reducible repeat (first | apply Kd.R_alloc | apply Kd.R_drewN | apply Kd.R_drew)); exact Kd.R_mono (Kd.R_far (p := ⟨gb112, 13, none⟩) (Kd.R_far (p := ⟨gb112, 12, none⟩) (Kd.R_far (p := ⟨gb112, 11, none⟩) (Kd.R_far (p := ⟨gb112, 10, none⟩) (Kd.R_far (p := ⟨gb112, 9, none⟩) (Kd.R_far (p := ⟨gb112, 8, none⟩) (Kd.R_far (p := ⟨gb112, 7, none⟩) (Kd.R_far (p := ⟨gb112, 6, none⟩) (Kd.R_far (p := ⟨gb112, 5, none⟩) (Kd.R_far (p := ⟨gb112, 4, none⟩) (Kd.R_far (p := ⟨gb112, 3, none⟩) (Kd.R_far (p := ⟨gb112, 2, none⟩) (Kd.R_far (p := ⟨gb112, 1, none⟩) (Kd.R_far (p := ⟨gb112, 0, none⟩) (Kd.R_far (p := ⟨gb111, 13, none⟩) (Kd.R_far (p := ⟨gb111, 12, none⟩) (Kd.R_far (p := ⟨gb111, 11, none⟩) (Kd.R_far (p := ⟨gb111, 10, none⟩) (Kd.R_far (p := ⟨gb111, 9, none⟩) (Kd.R_far (p := ⟨gb111, 8, none⟩) (Kd.R_far (p := ⟨gb111, 6, none⟩) (Kd.R_far (p := ⟨gb111, 5, none⟩) (Kd.R_far (p := ⟨gb111, 4, none⟩) (Kd.R_far (p := ⟨gb111, 3, none⟩) (Kd.R_far (p := ⟨gb111, 2, none⟩) (Kd.R_far (p := ⟨gb111, 1, none⟩) (Kd.R_types (Kd.R_types HO125.out BK111.out (by decide)) BK112.out (by decide)) (fun _ hk => hk.1.2) (.slice Ao9 t113.length co9)) (fun _ hk => hk.1.2) (.slice Ao11 t116.length co11)) (fun _ hk => hk.1.2) (.int .i64 t119)) (fun _ hk => hk.1.2) (.int .i64 t120)) (fun _ hk => hk.1.2) (.int .i64 t121)) (fun _ hk => hk.1.2) (.int .i64 t122)) (fun _ hk => hk.1.2) (.slice Ao17 t123.length co17)) (fun _ hk => hk.1.2) (.slice Ao19 t126.length co19)) (fun _ hk => hk.1.2) (.int .i64 t129)) (fun _ hk => hk.1.2) (.int .i64 t130)) (fun _ hk => hk.1.2) (.int .i64 t131)) (fun _ hk => hk.1.2) (.int .i64 t132)) (fun _ hk => hk.2) (.int .i64 a0_0)) (fun _ hk => hk.2) (.slice Ao9 t113.length co9)) (fun _ hk => hk.2) (.slice Ao11 t116.length co11)) (fun _ hk => hk.2) (.int .i64 t119)) (fun _ hk => hk.2) (.int .i64 t120)) (fun _ hk => hk.2) (.int .i64 t121)) (fun _ hk => hk.2) (.int .i64 t122)) (fun _ hk => hk.2) (.bool a0_7)) (fun _ hk => hk.2) (.slice Ao17 t123.length co17)) (fun _ hk => hk.2) (.slice Ao19 t126.length co19)) (fun _ hk => hk.2) (.int .i64 t129)) (fun _ hk => hk.2) (.int .i64 t130)) (fun _ hk => hk.2) (.int .i64 t131)) (fun _ hk => hk.2) (.int .i64 t132)) (fun _ hk => ⟨hk.1.1.1.2, ⟨hk.1.1.2, hk.1.1.1.1⟩⟩), by (with_reducible repeat (first | apply Kd.R_alloc | apply Kd.R_drewN | apply Kd.R_drew)); exact Kd.R_mono (Kd.R_far (p := ⟨gb112, 13, none⟩) (Kd.R_far (p := ⟨gb112, 12, none⟩) (Kd.R_far (p := ⟨gb112, 11, none⟩) (Kd.R_far (p := ⟨gb112, 10, none⟩) (Kd.R_far (p := ⟨gb112, 9, none⟩) (Kd.R_far (p := ⟨gb112, 8, none⟩) (Kd.R_far (p := ⟨gb112, 7, none⟩) (Kd.R_far (p := ⟨gb112, 6, none⟩) (Kd.R_far (p := ⟨gb112, 5, none⟩) (Kd.R_far (p := ⟨gb112, 4, none⟩) (Kd.R_far (p := ⟨gb112, 3, none⟩) (Kd.R_far (p := ⟨gb112, 2, none⟩) (Kd.R_far (p := ⟨gb112, 1, none⟩) (Kd.R_far (p := ⟨gb112, 0, none⟩) (Kd.R_far (p := ⟨gb111, 13, none⟩) (Kd.R_far (p := ⟨gb111, 12, none⟩) (Kd.R_far (p := ⟨gb111, 11, none⟩) (Kd.R_far (p := ⟨gb111, 10, none⟩) (Kd.R_far (p := ⟨gb111, 9, none⟩) (Kd.R_far (p := ⟨gb111, 8, none⟩) (Kd.R_far (p := ⟨gb111, 6, none⟩) (Kd.R_far (p := ⟨gb111, 5, none⟩) (Kd.R_far (p := ⟨gb111, 4, none⟩) (Kd.R_far (p := ⟨gb111, 3, none⟩) (Kd.R_far (p := ⟨gb111, 2, none⟩) (Kd.R_far (p := ⟨gb111, 1, none⟩) (Kd.R_types (Kd.R_types HO128.out BK111.out (by decide)) BK112.out (by decide)) (fun _ hk => hk.1.2) (.slice Ao9 t113.length co9)) (fun _ hk => hk.1.2) (.slice Ao11 t116.length co11)) (fun _ hk => hk.1.2) (.int .i64 t119)) (fun _ hk => hk.1.2) (.int .i64 t120)) (fun _ hk => hk.1.2) (.int .i64 t121)) (fun _ hk => hk.1.2) (.int .i64 t122)) (fun _ hk => hk.1.2) (.slice Ao17 t123.length co17)) (fun _ hk => hk.1.2) (.slice Ao19 t126.length co19)) (fun _ hk => hk.1.2) (.int .i64 t129)) (fun _ hk => hk.1.2) (.int .i64 t130)) (fun _ hk => hk.1.2) (.int .i64 t131)) (fun _ hk => hk.1.2) (.int .i64 t132)) (fun _ hk => hk.2) (.int .i64 a0_0)) (fun _ hk => hk.2) (.slice Ao9 t113.length co9)) (fun _ hk => hk.2) (.slice Ao11 t116.length co11)) (fun _ hk => hk.2) (.int .i64 t119)) (fun _ hk => hk.2) (.int .i64 t120)) (fun _ hk => hk.2) (.int .i64 t121)) (fun _ hk => hk.2) (.int .i64 t122)) (fun _ hk => hk.2) (.bool a0_7)) (fun _ hk => hk.2) (.slice Ao17 t123.length co17)) (fun _ hk => hk.2) (.slice Ao19 t126.length co19)) (fun _ hk => hk.2) (.int .i64 t129)) (fun _ hk => hk.2) (.int .i64 t130)) (fun _ hk => hk.2) (.int .i64 t131)) (fun _ hk => hk.2) (.int .i64 t132)) (fun _ hk => ⟨hk.1.1.1.2, ⟨hk.1.1.2, hk.1.1.1.1⟩⟩), by repeat (first | (with_reducible first | exact HB.out | apply Ext.ba | apply Ext.bn | apply Ext.bd | refine Ext.bs ?_ GE111.out | refine Ext.bs ?_ GE112.out) | exact HB.out | exact .refl _ _)⟩

end Go.Proofs.Ytdakdlgkhnjhoaa.PW
