-- Written by wip/printx.py, a program of this work over the kit's print, for this claim.
import Derived.Test.YtfkihcdonddcoaaPBx0
import Derived.Test.YtfkihcdonddcoaaPBx1
import Derived.Test.YtfkihcdonddcoaaPBx6
import Derived.Test.YtfkihcdonddcoaaPBx11
namespace Go.Proofs.Ytfkihcdonddcoaa.PB
open Go.RowKit Go.Proofs.YtfkihcdonddcoaaW.PrintWords Go.Proofs.YtfkihcdonddcoaaW.PrintLast Go.Proofs.YtfkihcdonddcoaaW.PrintMore
attribute [local go_sem] max2_int min2_int max_two min_two max_three min_three max_four min_four   -- for this text's walks alone
attribute [local go_sem] Ext.pick_u8 Ext.pick_u32 Ext.pick_u64
set_option linter.unusedVariables false
set_option linter.unusedSimpArgs false

attribute [local go_sem high] eqA24


/-! ### terrierlaw05_lives: function 9 -/
def terrierlaw05_lives.f (k : Nat)  : Option (Bool) := (meta_Encode.f k 4 3 0 8).bind fun bt206 => ((meta_Decode.f k bt206.1).bind fun bt210 => (if bt206.2 = 0 then (if bt210.2.2.2.2 = 0 then (some (bt210.1 == 4 && (bt210.2.1 == 3 && (bt210.2.2.1 == 0 && (bt210.2.2.2.1 == 8))))) else (some false)) else (some false)))
theorem terrierlaw05_lives.mono : ∀ k, LeO (terrierlaw05_lives.f k ) (terrierlaw05_lives.f (k + 1) ) := by
 intro  k
 unfold terrierlaw05_lives.f
 repeat' first
   | (with_reducible exact meta_Decode.mono _ _)
   | (with_reducible exact meta_Encode.mono _ _ _ _ _)
   | (with_reducible exact LeO.refl _)
   | (with_reducible exact LeO.none _)
   | (with_reducible refine LeO.ite ?_ ?_)
   | (with_reducible refine LeO.bind ?_ (fun _ => ?_))
   | exact meta_Decode.mono _ _
   | exact meta_Encode.mono _ _ _ _ _
   | exact LeO.none _
   | refine LeO.ite ?_ ?_
   | refine LeO.bind ?_ (fun _ => ?_)
set_option maxHeartbeats 8000000 in
set_option maxRecDepth 100000 in
theorem terrierlaw05_lives.calls (k : Nat)  (r : Bool) (w : World) (h : terrierlaw05_lives.f k  = some r) :
  Calls Try.prog 9 #[] w fun e w' => e = .returned (.bool r) ∧ Below w.heap.size w w' := by
 have hu24 := Try.underlying24
 have HB := Ext.a (Below.refl w.heap.size w)
 have H : ((meta_Encode.f k 4 3 0 8).bind fun bt206 => ((meta_Decode.f k bt206.1).bind fun bt210 => (if bt206.2 = 0 then (if bt210.2.2.2.2 = 0 then (some (bt210.1 == 4 && (bt210.2.1 == 3 && (bt210.2.2.1 == 0 && (bt210.2.2.2.1 == 8))))) else (some false)) else (some false)))) = some r := h
 clear h
 replace H := Option.bind_eq_some_iff.mp H
 obtain ⟨⟨t206, t209⟩, A10, H⟩ := H
 replace H : ((meta_Decode.f k t206).bind fun bt210 => (if t209 = 0 then (if bt210.2.2.2.2 = 0 then (some (bt210.1 == 4 && (bt210.2.1 == 3 && (bt210.2.2.1 == 0 && (bt210.2.2.2.1 == 8))))) else (some false)) else (some false))) = some r := H
 have A1 := Aside0.mk A10
 clear A10
 replace H := Option.bind_eq_some_iff.mp H
 obtain ⟨⟨t210, t211, t212, t213, t214⟩, A20, H⟩ := H
 replace H : (if t209 = 0 then (if t214 = 0 then (some (t210 == 4 && (t211 == 3 && (t212 == 0 && (t213 == 8))))) else (some false)) else (some false)) = some r := H
 have A2 := Aside0.mk A20
 clear A20
 by_cases c3 : t209 = 0
 ·
  rw [if_pos c3] at H
  have c3b0 : (t209 == 0) = true := beq_iff_eq.mpr c3
  have c3b1 : (t209 != 0) = false := bne_eq_false_iff_eq.mpr c3
  clear c3
  by_cases c4 : t214 = 0
  ·
   rw [if_pos c4] at H
   have c4b0 : (t214 == 0) = true := beq_iff_eq.mpr c4
   have c4b1 : (t214 != 0) = false := bne_eq_false_iff_eq.mpr c4
   clear c4
   obtain rfl := Option.some.inj H
   go_enter Try.func9, Try.ntmps9
   go_wp2_with (first | ((with_reducible refine gate_callee (f := 10) rfl ?_); refine goesL_ (some 7) rfl rfl Try.func10 (by kernel_rfl) rfl #[.agg #[.int .u64 4, .int .i64 3, .int .i64 0, .int .i64 8]] rfl (by (try simp only [List.map_toArray, List.map_cons, List.map_nil]); first | done | rfl | (simp only [List.length_drop, List.length_take]; rfl)) ?_; (with_reducible refine (meta_Encode.calls k 4 3 0 8 t206 t209 _ A1.out).mono ?_); rintro e w5 ⟨v207, rfl, ho0, hb⟩; refine ⟨_, rfl, ?_⟩; have n0_ := Ext.a (Kd.R_lower ho0 (below_size (Ext.nB HB.out))); have n1_ := Ext.a (below_step (Ext.nB HB.out) hb); clear HB; have HO208 := n0_; have HB := n1_; clear n0_ n1_; (try clear hb); (try clear hb2); (try clear hk); (try clear hi); (try clear ho0); obtain ⟨Ao6, co6, eo6⟩ := Kd.R_slice HO208.out; subst eo6) | ((with_reducible refine gate_callee (f := 18) rfl ?_); refine goesL_ (some 12) rfl rfl Try.func18 (by kernel_rfl) rfl #[.slice Ao6 t206.length co6] rfl (by (try simp only [List.map_toArray, List.map_cons, List.map_nil]); first | done | rfl | (simp only [List.length_drop, List.length_take]; rfl)) ?_; (with_reducible refine (meta_Decode.calls k _ _ t206 t210 t211 t212 t213 t214 _ ?side1 ?side2 A2.out).mono ?_); (case side1 => exact Ext.nC (Kd.R_reads' HO208.out).2.2); (case side2 => exact (Kd.R_reads' HO208.out).2.1); rintro e w7 ⟨rfl, hb⟩; refine ⟨_, rfl, ?_⟩; have n0_ := Ext.a (Kd.R_below (Ext.nR HO208.out) hb); have n1_ := Ext.a (below_step (Ext.nB HB.out) hb); clear HO208 HB; have HO208 := n0_; have HB := n1_; clear n0_ n1_; (try clear hb); (try clear hb2); (try clear hk); (try clear hi)) | ((with_reducible refine gate_dst (N := 3) rfl ?_); refine box_event ?hg (N := 3) ?hd (cs := #[.int .u64 0, .int .i64 0, .int .i64 0, .int .i64 0]) (t := 24) ?hr ?_; (case hd => rfl); (case hg => rfl); (case hr => first | (go_simp; done) | (go_simp; rfl)); intro gb215 hg w8 hbox hb; have n0_ := Ext.a (Kd.R_below (Ext.nR HO208.out) hb); have n1_ := Ext.a (below_step (Ext.nB HB.out) hb); have n2_ := Ext.a (hbox); have n3_ := Ext.a ((by rw [hg]; exact (below_size (Ext.nB HB.out)) : w.heap.size ≤ gb215)); have n4_ := Ext.a ((by rw [hg]; exact (below_size (Ext.nB HB.out)) : w.heap.size ≤ gb215)); clear HO208 HB; have HO208 := n0_; have HB := n1_; have BK215 := n2_; have GW215 := n3_; have GE215 := n4_; clear n0_ n1_ n2_ n3_ n4_; clear hb hbox hg; have hcz9_0 : w8.cell? ⟨gb215, 0, none⟩ = some (.int .u64 0) := (blk_cell BK215.out 0).trans rfl; have hcz9_1 : w8.cell? ⟨gb215, 1, none⟩ = some (.int .i64 0) := (blk_cell BK215.out 1).trans rfl; have hcz9_2 : w8.cell? ⟨gb215, 2, none⟩ = some (.int .i64 0) := (blk_cell BK215.out 2).trans rfl; have hcz9_3 : w8.cell? ⟨gb215, 3, none⟩ = some (.int .i64 0) := (blk_cell BK215.out 3).trans rfl; have hfz9_0 := blk_frozen BK215.out 0; have hfz9_1 := blk_frozen BK215.out 1; have hfz9_2 := blk_frozen BK215.out 2; have hfz9_3 := blk_frozen BK215.out 3))
   go_ret
   exact ⟨by first | rfl | (simp [errW_none, errW_some] <;> rfl) | (simp [*, errW_none, errW_some] <;> rfl), by repeat (first | (with_reducible first | exact HB.out | apply Ext.ba | apply Ext.bn | apply Ext.bd | refine Ext.bs ?_ GE215.out) | exact HB.out | exact .refl _ _)⟩
  ·
   rw [if_neg c4] at H
   have c4b0 : (t214 == 0) = false := beq_eq_false_iff_ne.mpr c4
   have c4b1 : (t214 != 0) = true := bne_iff_ne.mpr c4
   obtain rfl := Option.some.inj H
   go_enter Try.func9, Try.ntmps9
   go_wp2_with (first | ((with_reducible refine gate_callee (f := 10) rfl ?_); refine goesL_ (some 7) rfl rfl Try.func10 (by kernel_rfl) rfl #[.agg #[.int .u64 4, .int .i64 3, .int .i64 0, .int .i64 8]] rfl (by (try simp only [List.map_toArray, List.map_cons, List.map_nil]); first | done | rfl | (simp only [List.length_drop, List.length_take]; rfl)) ?_; (with_reducible refine (meta_Encode.calls k 4 3 0 8 t206 t209 _ A1.out).mono ?_); rintro e w10 ⟨v207, rfl, ho0, hb⟩; refine ⟨_, rfl, ?_⟩; have n0_ := Ext.a (Kd.R_lower ho0 (below_size (Ext.nB HB.out))); have n1_ := Ext.a (below_step (Ext.nB HB.out) hb); clear HB; have HO208 := n0_; have HB := n1_; clear n0_ n1_; (try clear hb); (try clear hb2); (try clear hk); (try clear hi); (try clear ho0); obtain ⟨Ao11, co11, eo11⟩ := Kd.R_slice HO208.out; subst eo11) | ((with_reducible refine gate_callee (f := 18) rfl ?_); refine goesL_ (some 12) rfl rfl Try.func18 (by kernel_rfl) rfl #[.slice Ao11 t206.length co11] rfl (by (try simp only [List.map_toArray, List.map_cons, List.map_nil]); first | done | rfl | (simp only [List.length_drop, List.length_take]; rfl)) ?_; (with_reducible refine (meta_Decode.calls k _ _ t206 t210 t211 t212 t213 t214 _ ?side1 ?side2 A2.out).mono ?_); (case side1 => exact Ext.nC (Kd.R_reads' HO208.out).2.2); (case side2 => exact (Kd.R_reads' HO208.out).2.1); rintro e w12 ⟨rfl, hb⟩; refine ⟨_, rfl, ?_⟩; have n0_ := Ext.a (Kd.R_below (Ext.nR HO208.out) hb); have n1_ := Ext.a (below_step (Ext.nB HB.out) hb); clear HO208 HB; have HO208 := n0_; have HB := n1_; clear n0_ n1_; (try clear hb); (try clear hb2); (try clear hk); (try clear hi)) | ((with_reducible refine gate_dst (N := 3) rfl ?_); refine box_event ?hg (N := 3) ?hd (cs := #[.int .u64 0, .int .i64 0, .int .i64 0, .int .i64 0]) (t := 24) ?hr ?_; (case hd => rfl); (case hg => rfl); (case hr => first | (go_simp; done) | (go_simp; rfl)); intro gb215 hg w13 hbox hb; have n0_ := Ext.a (Kd.R_below (Ext.nR HO208.out) hb); have n1_ := Ext.a (below_step (Ext.nB HB.out) hb); have n2_ := Ext.a (hbox); have n3_ := Ext.a ((by rw [hg]; exact (below_size (Ext.nB HB.out)) : w.heap.size ≤ gb215)); have n4_ := Ext.a ((by rw [hg]; exact (below_size (Ext.nB HB.out)) : w.heap.size ≤ gb215)); clear HO208 HB; have HO208 := n0_; have HB := n1_; have BK215 := n2_; have GW215 := n3_; have GE215 := n4_; clear n0_ n1_ n2_ n3_ n4_; clear hb hbox hg; have hcz14_0 : w13.cell? ⟨gb215, 0, none⟩ = some (.int .u64 0) := (blk_cell BK215.out 0).trans rfl; have hcz14_1 : w13.cell? ⟨gb215, 1, none⟩ = some (.int .i64 0) := (blk_cell BK215.out 1).trans rfl; have hcz14_2 : w13.cell? ⟨gb215, 2, none⟩ = some (.int .i64 0) := (blk_cell BK215.out 2).trans rfl; have hcz14_3 : w13.cell? ⟨gb215, 3, none⟩ = some (.int .i64 0) := (blk_cell BK215.out 3).trans rfl; have hfz14_0 := blk_frozen BK215.out 0; have hfz14_1 := blk_frozen BK215.out 1; have hfz14_2 := blk_frozen BK215.out 2; have hfz14_3 := blk_frozen BK215.out 3))
   go_ret
   exact ⟨by first | rfl | (simp [errW_none, errW_some] <;> rfl) | (simp [*, errW_none, errW_some] <;> rfl), by repeat (first | (with_reducible first | exact HB.out | apply Ext.ba | apply Ext.bn | apply Ext.bd | refine Ext.bs ?_ GE215.out) | exact HB.out | exact .refl _ _)⟩
 ·
  rw [if_neg c3] at H
  have c3b0 : (t209 == 0) = false := beq_eq_false_iff_ne.mpr c3
  have c3b1 : (t209 != 0) = true := bne_iff_ne.mpr c3
  obtain rfl := Option.some.inj H
  go_enter Try.func9, Try.ntmps9
  go_wp2_with (first | ((with_reducible refine gate_callee (f := 10) rfl ?_); refine goesL_ (some 7) rfl rfl Try.func10 (by kernel_rfl) rfl #[.agg #[.int .u64 4, .int .i64 3, .int .i64 0, .int .i64 8]] rfl (by (try simp only [List.map_toArray, List.map_cons, List.map_nil]); first | done | rfl | (simp only [List.length_drop, List.length_take]; rfl)) ?_; (with_reducible refine (meta_Encode.calls k 4 3 0 8 t206 t209 _ A1.out).mono ?_); rintro e w15 ⟨v207, rfl, ho0, hb⟩; refine ⟨_, rfl, ?_⟩; have n0_ := Ext.a (Kd.R_lower ho0 (below_size (Ext.nB HB.out))); have n1_ := Ext.a (below_step (Ext.nB HB.out) hb); clear HB; have HO208 := n0_; have HB := n1_; clear n0_ n1_; (try clear hb); (try clear hb2); (try clear hk); (try clear hi); (try clear ho0); obtain ⟨Ao16, co16, eo16⟩ := Kd.R_slice HO208.out; subst eo16) | ((with_reducible refine gate_callee (f := 18) rfl ?_); refine goesL_ (some 12) rfl rfl Try.func18 (by kernel_rfl) rfl #[.slice Ao16 t206.length co16] rfl (by (try simp only [List.map_toArray, List.map_cons, List.map_nil]); first | done | rfl | (simp only [List.length_drop, List.length_take]; rfl)) ?_; (with_reducible refine (meta_Decode.calls k _ _ t206 t210 t211 t212 t213 t214 _ ?side1 ?side2 A2.out).mono ?_); (case side1 => exact Ext.nC (Kd.R_reads' HO208.out).2.2); (case side2 => exact (Kd.R_reads' HO208.out).2.1); rintro e w17 ⟨rfl, hb⟩; refine ⟨_, rfl, ?_⟩; have n0_ := Ext.a (Kd.R_below (Ext.nR HO208.out) hb); have n1_ := Ext.a (below_step (Ext.nB HB.out) hb); clear HO208 HB; have HO208 := n0_; have HB := n1_; clear n0_ n1_; (try clear hb); (try clear hb2); (try clear hk); (try clear hi)) | ((with_reducible refine gate_dst (N := 3) rfl ?_); refine box_event ?hg (N := 3) ?hd (cs := #[.int .u64 0, .int .i64 0, .int .i64 0, .int .i64 0]) (t := 24) ?hr ?_; (case hd => rfl); (case hg => rfl); (case hr => first | (go_simp; done) | (go_simp; rfl)); intro gb215 hg w18 hbox hb; have n0_ := Ext.a (Kd.R_below (Ext.nR HO208.out) hb); have n1_ := Ext.a (below_step (Ext.nB HB.out) hb); have n2_ := Ext.a (hbox); have n3_ := Ext.a ((by rw [hg]; exact (below_size (Ext.nB HB.out)) : w.heap.size ≤ gb215)); have n4_ := Ext.a ((by rw [hg]; exact (below_size (Ext.nB HB.out)) : w.heap.size ≤ gb215)); clear HO208 HB; have HO208 := n0_; have HB := n1_; have BK215 := n2_; have GW215 := n3_; have GE215 := n4_; clear n0_ n1_ n2_ n3_ n4_; clear hb hbox hg; have hcz19_0 : w18.cell? ⟨gb215, 0, none⟩ = some (.int .u64 0) := (blk_cell BK215.out 0).trans rfl; have hcz19_1 : w18.cell? ⟨gb215, 1, none⟩ = some (.int .i64 0) := (blk_cell BK215.out 1).trans rfl; have hcz19_2 : w18.cell? ⟨gb215, 2, none⟩ = some (.int .i64 0) := (blk_cell BK215.out 2).trans rfl; have hcz19_3 : w18.cell? ⟨gb215, 3, none⟩ = some (.int .i64 0) := (blk_cell BK215.out 3).trans rfl; have hfz19_0 := blk_frozen BK215.out 0; have hfz19_1 := blk_frozen BK215.out 1; have hfz19_2 := blk_frozen BK215.out 2; have hfz19_3 := blk_frozen BK215.out 3))
  go_ret
  exact ⟨by first | rfl | (simp [errW_none, errW_some] <;> rfl) | (simp [*, errW_none, errW_some] <;> rfl), by repeat (first | (with_reducible first | exact HB.out | apply Ext.ba | apply Ext.bn | apply Ext.bd | refine Ext.bs ?_ GE215.out) | exact HB.out | exact .refl _ _)⟩



/-! ### terrierref01_Same: function 14 -/
def terrierref01_Same.f (l0 : List Int) (l1 : List Int) : Option (Bool) := some ((strOfNums l0).toList == (strOfNums l1).toList)
set_option maxHeartbeats 8000000 in
set_option maxRecDepth 100000 in
theorem terrierref01_Same.calls (A0 : Option Addr) (c0 : Nat) (l0 : List Int) (A1 : Option Addr) (c1 : Nat) (l1 : List Int) (r : Bool) (w : World) (hr0 : Kd.C (Kd.int .u8) w A0 l0.length l0) (hc0 : l0.length ≤ c0) (hr1 : Kd.C (Kd.int .u8) w A1 l1.length l1) (hc1 : l1.length ≤ c1) (h : terrierref01_Same.f l0 l1 = some r) :
  Calls Try.prog 14 #[.slice A0 l0.length c0, .slice A1 l1.length c1] w fun e w' => e = .returned (.bool r) ∧ Drawn0 w w' := by
 have HR0 := Aside0.mk hr0
 have HC0 := Aside0.mk hc0
 clear hr0 hc0
 have HR1 := Aside0.mk hr1
 have HC1 := Aside0.mk hc1
 clear hr1 hc1
 have H : (some ((strOfNums l0).toList == (strOfNums l1).toList)) = some r := h
 clear h
 obtain rfl := Option.some.inj H
 have hcv3 := Kd.C_string (P := Try.prog) (A := A0) (c := c0) Try.underlying26 Try.underlying5 Try.underlying9 HR0.out
 have hcv4 := Kd.C_string (P := Try.prog) (A := A1) (c := c1) Try.underlying26 Try.underlying5 Try.underlying9 HR1.out
 go_enter Try.func14, Try.ntmps14
 go_wp2
 go_ret
 exact ⟨by first | rfl | (simp; done) | (simp [*]; done), by repeat (first | exact Drawn0.refl _ | apply Drawn0.step)⟩

/-! ### what is known of a struct of type 24 that came in -/
def ok24 (x : S24) : Prop := (Lit.int .u64 x.f0).wf = true ∧ (Lit.int .i64 x.f1).wf = true ∧ (Lit.int .i64 x.f2).wf = true ∧ (Lit.int .i64 x.f3).wf = true
set_option maxRecDepth 100000 in
theorem opens24 : Open.Opens Try.prog 24 k24 ok24 := by
  intro H enc W base spare held fuel cs x h hw
  obtain ⟨xs, n, _, rfl, hl, hlen, hf⟩ := DataW.trod_struct Try.underlying24 h
  have hl' : cs.length = 4 := hl.trans (by kernel_rfl)
  obtain ⟨y0, K0, o0⟩ := Open.field_at (o := 0) (s := 1) (i := 0) Try.underlying24 rfl (Open.opens_int Try.underlying22) (by kernel_rfl) rfl hlen hf hw
  obtain ⟨y1, K1, o1⟩ := Open.field_at (o := 1) (s := 1) (i := 1) Try.underlying24 rfl (Open.opens_int Try.underlying3) (by kernel_rfl) rfl hlen hf hw
  obtain ⟨y2, K2, o2⟩ := Open.field_at (o := 2) (s := 1) (i := 2) Try.underlying24 rfl (Open.opens_int Try.underlying3) (by kernel_rfl) rfl hlen hf hw
  obtain ⟨y3, K3, o3⟩ := Open.field_at (o := 3) (s := 1) (i := 3) Try.underlying24 rfl (Open.opens_int Try.underlying3) (by kernel_rfl) rfl hlen hf hw
  have z : k24.K W (⟨y0, y1, y2, y3⟩ : S24) (cs.drop 0) := (Open.pair_piece (o := 0) (s := 1) (o' := 1) rfl K0 (Open.pair_piece (o := 1) (s := 1) (o' := 2) rfl K1 (Open.pair_piece (o := 2) (s := 1) (o' := 3) rfl K2 (Open.last_piece (o := 3) (s := 1) hl' K3))))
  rw [List.drop_zero] at z
  exact ⟨_, z, o0, o1, o2, o3⟩

end Go.Proofs.Ytfkihcdonddcoaa.PB
