-- Written by wip/printx.py, a program of this work over the kit's print, for this claim.
import Derived.Test.YtfkihcdonddcoaaPLx0
import Derived.Test.YtfkihcdonddcoaaPLx1
import Derived.Test.YtfkihcdonddcoaaPLx6
import Derived.Test.YtfkihcdonddcoaaPLx11
namespace Go.Proofs.Ytfkihcdonddcoaa.PL
open Go.RowKit Go.Proofs.YtfkihcdonddcoaaW.PrintWords Go.Proofs.YtfkihcdonddcoaaW.PrintLast Go.Proofs.YtfkihcdonddcoaaW.PrintMore
attribute [local go_sem] max2_int min2_int max_two min_two max_three min_three max_four min_four   -- for this text's walks alone
attribute [local go_sem] Ext.pick_u8 Ext.pick_u32 Ext.pick_u64
set_option linter.unusedVariables false
set_option linter.unusedSimpArgs false

attribute [local go_sem high] eqA24


/-! ### terrierlaw05_lives: function 9 -/
def terrierlaw05_lives.f (k : Nat)  : Option (Bool) := (meta_Encode.f k 4 3 0 8).bind fun bt206 => ((meta_Decode.f k bt206.1).bind fun bt210 => (if bt206.2 = 0 then (if bt210.2.2.2.2 = 0 then (some (bt210.1 == 4 && (bt210.2.1 == 3 && (bt210.2.2.1 == 0 && (bt210.2.2.2.1 == 8))))) else (some false)) else (some false)))
theorem terrierlaw05_lives.mono : ∀ k, LeO (terrierlaw05_lives.f k ) (terrierlaw05_lives.f (k + 1) ) := by
 intro  k
 unfold terrierlaw05_lives.f
 repeat' first
   | (with_reducible exact meta_Decode.mono _ _)
   | (with_reducible exact meta_Encode.mono _ _ _ _ _)
   | (with_reducible exact LeO.refl _)
   | (with_reducible exact LeO.none _)
   | (with_reducible refine LeO.ite ?_ ?_)
   | (with_reducible refine LeO.bind ?_ (fun _ => ?_))
   | exact meta_Decode.mono _ _
   | exact meta_Encode.mono _ _ _ _ _
   | exact LeO.none _
   | refine LeO.ite ?_ ?_
   | refine LeO.bind ?_ (fun _ => ?_)
set_option maxHeartbeats 8000000 in
set_option maxRecDepth 100000 in
theorem terrierlaw05_lives.calls (k : Nat)  (r : Bool) (w : World) (h : terrierlaw05_lives.f k  = some r) :
  Calls Try.prog 9 #[] w fun e w' => e = .returned (.bool r) ∧ Below w.heap.size w w' := by
 have hu24 := Try.underlying24
 have HB := Ext.a (Below.refl w.heap.size w)
 have H : ((meta_Encode.f k 4 3 0 8).bind fun bt206 => ((meta_Decode.f k bt206.1).bind fun bt210 => (if bt206.2 = 0 then (if bt210.2.2.2.2 = 0 then (some (bt210.1 == 4 && (bt210.2.1 == 3 && (bt210.2.2.1 == 0 && (bt210.2.2.2.1 == 8))))) else (some false)) else (some false)))) = some r := h
 clear h
 replace H := Option.bind_eq_some_iff.mp H
 obtain ⟨⟨t206, t209⟩, A10, H⟩ := H
 replace H : ((meta_Decode.f k t206).bind fun bt210 => (if t209 = 0 then (if bt210.2.2.2.2 = 0 then (some (bt210.1 == 4 && (bt210.2.1 == 3 && (bt210.2.2.1 == 0 && (bt210.2.2.2.1 == 8))))) else (some false)) else (some false))) = some r := H
 have A1 := Aside0.mk A10
 clear A10
 replace H := Option.bind_eq_some_iff.mp H
 obtain ⟨⟨t210, t211, t212, t213, t214⟩, A20, H⟩ := H
 replace H : (if t209 = 0 then (if t214 = 0 then (some (t210 == 4 && (t211 == 3 && (t212 == 0 && (t213 == 8))))) else (some false)) else (some false)) = some r := H
 have A2 := Aside0.mk A20
 clear A20
 by_cases c3 : t209 = 0
 ·
  rw [if_pos c3] at H
  have c3b0 : (t209 == 0) = true := beq_iff_eq.mpr c3
  have c3b1 : (t209 != 0) = false := bne_eq_false_iff_eq.mpr c3
  clear c3
  by_cases c4 : t214 = 0
  ·
   rw [if_pos c4] at H
   have c4b0 : (t214 == 0) = true := beq_iff_eq.mpr c4
   have c4b1 : (t214 != 0) = false := bne_eq_false_iff_eq.mpr c4
   clear c4
   obtain rfl := Option.some.inj H
   go_enter Try.func9, Try.ntmps9
   go_wp2_with (first | ((with_reducible refine gate_callee (f := 10) rfl ?_); refine goesL_ (some 7) rfl rfl Try.func10 (by kernel_rfl) rfl #[.agg #[.int .u64 4, .int .i64 3, .int .i64 0, .int .i64 8]] rfl (by (try simp only [List.map_toArray, List.map_cons, List.map_nil]); first | done | rfl | (simp only [List.length_drop, List.length_take]; rfl)) ?_; (with_reducible refine (meta_Encode.calls k 4 3 0 8 t206 t209 _ A1.out).mono ?_); rintro e w5 ⟨v207, rfl, ho0, hb⟩; refine ⟨_, rfl, ?_⟩; have n0_ := Ext.a (Kd.R_lower ho0 (below_size (Ext.nB HB.out))); have n1_ := Ext.a (below_step (Ext.nB HB.out) hb); clear HB; have HO208 := n0_; have HB := n1_; clear n0_ n1_; (try clear hb); (try clear hb2); (try clear hk); (try clear hi); (try clear ho0); obtain ⟨Ao6, co6, eo6⟩ := Kd.R_slice HO208.out; subst eo6) | ((with_reducible refine gate_callee (f := 18) rfl ?_); refine goesL_ (some 12) rfl rfl Try.func18 (by kernel_rfl) rfl #[.slice Ao6 t206.length co6] rfl (by (try simp only [List.map_toArray, List.map_cons, List.map_nil]); first | done | rfl | (simp only [List.length_drop, List.length_take]; rfl)) ?_; (with_reducible refine (meta_Decode.calls k _ _ t206 t210 t211 t212 t213 t214 _ ?side1 ?side2 A2.out).mono ?_); (case side1 => exact Ext.nC (Kd.R_reads' HO208.out).2.2); (case side2 => exact (Kd.R_reads' HO208.out).2.1); rintro e w7 ⟨rfl, hb⟩; refine ⟨_, rfl, ?_⟩; have n0_ := Ext.a (Kd.R_below (Ext.nR HO208.out) hb); have n1_ := Ext.a (below_step (Ext.nB HB.out) hb); clear HO208 HB; have HO208 := n0_; have HB := n1_; clear n0_ n1_; (try clear hb); (try clear hb2); (try clear hk); (try clear hi)) | ((with_reducible refine gate_dst (N := 3) rfl ?_); refine box_event ?hg (N := 3) ?hd (cs := #[.int .u64 0, .int .i64 0, .int .i64 0, .int .i64 0]) (t := 24) ?hr ?_; (case hd => rfl); (case hg => rfl); (case hr => first | (go_simp; done) | (go_simp; rfl)); intro gb215 hg w8 hbox hb; have n0_ := Ext.a (Kd.R_below (Ext.nR HO208.out) hb); have n1_ := Ext.a (below_step (Ext.nB HB.out) hb); have n2_ := Ext.a (hbox); have n3_ := Ext.a ((by rw [hg]; exact (below_size (Ext.nB HB.out)) : w.heap.size ≤ gb215)); have n4_ := Ext.a ((by rw [hg]; exact (below_size (Ext.nB HB.out)) : w.heap.size ≤ gb215)); clear HO208 HB; have HO208 := n0_; have HB := n1_; have BK215 := n2_; have GW215 := n3_; have GE215 := n4_; clear n0_ n1_ n2_ n3_ n4_; clear hb hbox hg; obtain ⟨hcz9_0, hcz9_1, hcz9_2, hcz9_3⟩ := Ext.cells4 BK215.out; obtain ⟨hfz9_0, hfz9_1, hfz9_2, hfz9_3⟩ := Ext.froz4 BK215.out))
   go_ret
   exact ⟨by first | rfl | (simp [errW_none, errW_some] <;> rfl) | (simp [*, errW_none, errW_some] <;> rfl), by repeat (first | (with_reducible first | exact HB.out | apply Ext.ba | apply Ext.bn | apply Ext.bd | refine Ext.bs ?_ GE215.out) | exact HB.out | exact .refl _ _)⟩
  ·
   rw [if_neg c4] at H
   have c4b0 : (t214 == 0) = false := beq_eq_false_iff_ne.mpr c4
   have c4b1 : (t214 != 0) = true := bne_iff_ne.mpr c4
   obtain rfl := Option.some.inj H
   go_enter Try.func9, Try.ntmps9
   go_wp2_with (first | ((with_reducible refine gate_callee (f := 10) rfl ?_); refine goesL_ (some 7) rfl rfl Try.func10 (by kernel_rfl) rfl #[.agg #[.int .u64 4, .int .i64 3, .int .i64 0, .int .i64 8]] rfl (by (try simp only [List.map_toArray, List.map_cons, List.map_nil]); first | done | rfl | (simp only [List.length_drop, List.length_take]; rfl)) ?_; (with_reducible refine (meta_Encode.calls k 4 3 0 8 t206 t209 _ A1.out).mono ?_); rintro e w10 ⟨v207, rfl, ho0, hb⟩; refine ⟨_, rfl, ?_⟩; have n0_ := Ext.a (Kd.R_lower ho0 (below_size (Ext.nB HB.out))); have n1_ := Ext.a (below_step (Ext.nB HB.out) hb); clear HB; have HO208 := n0_; have HB := n1_; clear n0_ n1_; (try clear hb); (try clear hb2); (try clear hk); (try clear hi); (try clear ho0); obtain ⟨Ao11, co11, eo11⟩ := Kd.R_slice HO208.out; subst eo11) | ((with_reducible refine gate_callee (f := 18) rfl ?_); refine goesL_ (some 12) rfl rfl Try.func18 (by kernel_rfl) rfl #[.slice Ao11 t206.length co11] rfl (by (try simp only [List.map_toArray, List.map_cons, List.map_nil]); first | done | rfl | (simp only [List.length_drop, List.length_take]; rfl)) ?_; (with_reducible refine (meta_Decode.calls k _ _ t206 t210 t211 t212 t213 t214 _ ?side1 ?side2 A2.out).mono ?_); (case side1 => exact Ext.nC (Kd.R_reads' HO208.out).2.2); (case side2 => exact (Kd.R_reads' HO208.out).2.1); rintro e w12 ⟨rfl, hb⟩; refine ⟨_, rfl, ?_⟩; have n0_ := Ext.a (Kd.R_below (Ext.nR HO208.out) hb); have n1_ := Ext.a (below_step (Ext.nB HB.out) hb); clear HO208 HB; have HO208 := n0_; have HB := n1_; clear n0_ n1_; (try clear hb); (try clear hb2); (try clear hk); (try clear hi)) | ((with_reducible refine gate_dst (N := 3) rfl ?_); refine box_event ?hg (N := 3) ?hd (cs := #[.int .u64 0, .int .i64 0, .int .i64 0, .int .i64 0]) (t := 24) ?hr ?_; (case hd => rfl); (case hg => rfl); (case hr => first | (go_simp; done) | (go_simp; rfl)); intro gb215 hg w13 hbox hb; have n0_ := Ext.a (Kd.R_below (Ext.nR HO208.out) hb); have n1_ := Ext.a (below_step (Ext.nB HB.out) hb); have n2_ := Ext.a (hbox); have n3_ := Ext.a ((by rw [hg]; exact (below_size (Ext.nB HB.out)) : w.heap.size ≤ gb215)); have n4_ := Ext.a ((by rw [hg]; exact (below_size (Ext.nB HB.out)) : w.heap.size ≤ gb215)); clear HO208 HB; have HO208 := n0_; have HB := n1_; have BK215 := n2_; have GW215 := n3_; have GE215 := n4_; clear n0_ n1_ n2_ n3_ n4_; clear hb hbox hg; obtain ⟨hcz14_0, hcz14_1, hcz14_2, hcz14_3⟩ := Ext.cells4 BK215.out; obtain ⟨hfz14_0, hfz14_1, hfz14_2, hfz14_3⟩ := Ext.froz4 BK215.out))
   go_ret
   exact ⟨by first | rfl | (simp [errW_none, errW_some] <;> rfl) | (simp [*, errW_none, errW_some] <;> rfl), by repeat (first | (with_reducible first | exact HB.out | apply Ext.ba | apply Ext.bn | apply Ext.bd | refine Ext.bs ?_ GE215.out) | exact HB.out | exact .refl _ _)⟩
 ·
  rw [if_neg c3] at H
  have c3b0 : (t209 == 0) = false := beq_eq_false_iff_ne.mpr c3
  have c3b1 : (t209 != 0) = true := bne_iff_ne.mpr c3
  obtain rfl := Option.some.inj H
  go_enter Try.func9, Try.ntmps9
  go_wp2_with (first | ((with_reducible refine gate_callee (f := 10) rfl ?_); refine goesL_ (some 7) rfl rfl Try.func10 (by kernel_rfl) rfl #[.agg #[.int .u64 4, .int .i64 3, .int .i64 0, .int .i64 8]] rfl (by (try simp only [List.map_toArray, List.map_cons, List.map_nil]); first | done | rfl | (simp only [List.length_drop, List.length_take]; rfl)) ?_; (with_reducible refine (meta_Encode.calls k 4 3 0 8 t206 t209 _ A1.out).mono ?_); rintro e w15 ⟨v207, rfl, ho0, hb⟩; refine ⟨_, rfl, ?_⟩; have n0_ := Ext.a (Kd.R_lower ho0 (below_size (Ext.nB HB.out))); have n1_ := Ext.a (below_step (Ext.nB HB.out) hb); clear HB; have HO208 := n0_; have HB := n1_; clear n0_ n1_; (try clear hb); (try clear hb2); (try clear hk); (try clear hi); (try clear ho0); obtain ⟨Ao16, co16, eo16⟩ := Kd.R_slice HO208.out; subst eo16) | ((with_reducible refine gate_callee (f := 18) rfl ?_); refine goesL_ (some 12) rfl rfl Try.func18 (by kernel_rfl) rfl #[.slice Ao16 t206.length co16] rfl (by (try simp only [List.map_toArray, List.map_cons, List.map_nil]); first | done | rfl | (simp only [List.length_drop, List.length_take]; rfl)) ?_; (with_reducible refine (meta_Decode.calls k _ _ t206 t210 t211 t212 t213 t214 _ ?side1 ?side2 A2.out).mono ?_); (case side1 => exact Ext.nC (Kd.R_reads' HO208.out).2.2); (case side2 => exact (Kd.R_reads' HO208.out).2.1); rintro e w17 ⟨rfl, hb⟩; refine ⟨_, rfl, ?_⟩; have n0_ := Ext.a (Kd.R_below (Ext.nR HO208.out) hb); have n1_ := Ext.a (below_step (Ext.nB HB.out) hb); clear HO208 HB; have HO208 := n0_; have HB := n1_; clear n0_ n1_; (try clear hb); (try clear hb2); (try clear hk); (try clear hi)) | ((with_reducible refine gate_dst (N := 3) rfl ?_); refine box_event ?hg (N := 3) ?hd (cs := #[.int .u64 0, .int .i64 0, .int .i64 0, .int .i64 0]) (t := 24) ?hr ?_; (case hd => rfl); (case hg => rfl); (case hr => first | (go_simp; done) | (go_simp; rfl)); intro gb215 hg w18 hbox hb; have n0_ := Ext.a (Kd.R_below (Ext.nR HO208.out) hb); have n1_ := Ext.a (below_step (Ext.nB HB.out) hb); have n2_ := Ext.a (hbox); have n3_ := Ext.a ((by rw [hg]; exact (below_size (Ext.nB HB.out)) : w.heap.size ≤ gb215)); have n4_ := Ext.a ((by rw [hg]; exact (below_size (Ext.nB HB.out)) : w.heap.size ≤ gb215)); clear HO208 HB; have HO208 := n0_; have HB := n1_; have BK215 := n2_; have GW215 := n3_; have GE215 := n4_; clear n0_ n1_ n2_ n3_ n4_; clear hb hbox hg; obtain ⟨hcz19_0, hcz19_1, hcz19_2, hcz19_3⟩ := Ext.cells4 BK215.out; obtain ⟨hfz19_0, hfz19_1, hfz19_2, hfz19_3⟩ := Ext.froz4 BK215.out))
  go_ret
  exact ⟨by first | rfl | (simp [errW_none, errW_some] <;> rfl) | (simp [*, errW_none, errW_some] <;> rfl), by repeat (first | (with_reducible first | exact HB.out | apply Ext.ba | apply Ext.bn | apply Ext.bd | refine Ext.bs ?_ GE215.out) | exact HB.out | exact .refl _ _)⟩

end Go.Proofs.Ytfkihcdonddcoaa.PL
