-- Written by wip/printx.py, a program of this work over the kit's print, for this claim.
import Derived.Test.YtandeendeoempaaPCx0
import Derived.Test.YtandeendeoempaaPCx12
namespace Go.Proofs.Ytandeendeoempaa.PC
open Go.RowKit Go.Proofs.YtandeendeoempaaW.PrintWords Go.Proofs.YtandeendeoempaaW.PrintLast Go.Proofs.YtandeendeoempaaW.PrintMore
attribute [local go_sem] max2_int min2_int max_two min_two max_three min_three max_four min_four   -- for this text's walks alone
attribute [local go_sem] Ext.pick_u8 Ext.pick_u32 Ext.pick_u64
set_option linter.unusedVariables false
set_option linter.unusedSimpArgs false



/-! ### terrierref04_Right: function 13 -/
def terrierref04_Right.f (k : Nat) (a0_0 : Int) (a0_1 : Int) (a0_2 : Int) (l0_3 : List (S61)) (l0_4 : List (S62)) (l0_5 : List Int) (l0_6 : List Int) : Option (Bool) := (terrierref04_room.f k a0_0 a0_1 a0_2 l0_3 l0_4 l0_5 l0_6).bind fun bt320 => (some bt320.2.2)
theorem terrierref04_Right.mono : ∀ a0 a1 a2 a3 a4 a5 a6 k, LeO (terrierref04_Right.f k a0 a1 a2 a3 a4 a5 a6) (terrierref04_Right.f (k + 1) a0 a1 a2 a3 a4 a5 a6) := by
 intro a0 a1 a2 a3 a4 a5 a6 k
 unfold terrierref04_Right.f
 repeat' first
   | (with_reducible exact terrierref04_room.mono _ _ _ _ _ _ _ _)
   | (with_reducible exact LeO.refl _)
   | (with_reducible exact LeO.none _)
   | (with_reducible refine LeO.ite ?_ ?_)
   | (with_reducible refine LeO.bind ?_ (fun _ => ?_))
   | exact terrierref04_room.mono _ _ _ _ _ _ _ _
   | exact LeO.none _
   | refine LeO.ite ?_ ?_
   | refine LeO.bind ?_ (fun _ => ?_)
set_option maxHeartbeats 8000000 in
set_option maxRecDepth 100000 in
theorem terrierref04_Right.calls (k : Nat) (a0_0 : Int) (a0_1 : Int) (a0_2 : Int) (A0_3 : Option Addr) (c0_3 : Nat) (l0_3 : List (S61)) (A0_4 : Option Addr) (c0_4 : Nat) (l0_4 : List (S62)) (A0_5 : Option Addr) (c0_5 : Nat) (l0_5 : List Int) (A0_6 : Option Addr) (c0_6 : Nat) (l0_6 : List Int) (r : Bool) (w : World) (hr0_3 : Kd.C k61 w A0_3 l0_3.length l0_3) (hc0_3 : l0_3.length ≤ c0_3) (hr0_4 : Kd.C k62 w A0_4 l0_4.length l0_4) (hc0_4 : l0_4.length ≤ c0_4) (hr0_5 : Kd.C (Kd.int .u8) w A0_5 l0_5.length l0_5) (hc0_5 : l0_5.length ≤ c0_5) (hr0_6 : Kd.C (Kd.int .i64) w A0_6 l0_6.length l0_6) (hc0_6 : l0_6.length ≤ c0_6) (h : terrierref04_Right.f k a0_0 a0_1 a0_2 l0_3 l0_4 l0_5 l0_6 = some r) :
  Calls Try.prog 13 #[.agg #[.int .i64 a0_0, .int .u64 a0_1, .int .i64 a0_2, .slice A0_3 l0_3.length c0_3, .slice A0_4 l0_4.length c0_4, .slice A0_5 l0_5.length c0_5, .slice A0_6 l0_6.length c0_6]] w fun e w' => e = .returned (.bool r) ∧ Below w.heap.size w w' := by
 have hu34 := Try.underlying34; have HR0_3 := Aside0.mk hr0_3; have HC0_3 := Aside0.mk hc0_3; clear hr0_3 hc0_3; have HR0_4 := Aside0.mk hr0_4; have HC0_4 := Aside0.mk hc0_4; clear hr0_4 hc0_4; have HR0_5 := Aside0.mk hr0_5; have HC0_5 := Aside0.mk hc0_5; clear hr0_5 hc0_5; have HR0_6 := Aside0.mk hr0_6; have HC0_6 := Aside0.mk hc0_6; clear hr0_6 hc0_6; have HB := Ext.a (Below.refl w.heap.size w); have H := h; unfold terrierref04_Right.f at H; clear h; replace H := Option.bind_eq_some_iff.mp H; obtain ⟨⟨t320, t323, t324⟩, A20, H⟩ := H; (try dsimp only at H); have A2 := Aside0.mk A20; clear A20; obtain rfl := Option.some.inj H
 go_enter Try.func13, Try.ntmps13
 go_wp2_with (first | ((with_reducible refine gate_dst (N := 1) rfl ?_); refine box_event ?hg (N := 1) ?hd (cs := #[.int .i64 a0_0, .int .u64 a0_1, .int .i64 a0_2, .slice A0_3 l0_3.length c0_3, .slice A0_4 l0_4.length c0_4, .slice A0_5 l0_5.length c0_5, .slice A0_6 l0_6.length c0_6]) (t := 34) ?hr ?_; (case hd => rfl); (case hg => rfl); (case hr => first | (go_simp; done) | (go_simp; rfl)); intro gb319 hg w3 hbox hb; have BK319 := Ext.a (hbox); have GW319 := Ext.gw hg (below_size (Ext.nB HB.out)); have GE319 := Ext.gw hg (below_size (Ext.nB HB.out)); replace HB := Ext.a (below_step (Ext.nB HB.out) hb); clear hb hbox hg; have hcz4 := Ext.cells7 BK319.out; have hfz4 := Ext.froz7 BK319.out) | ((with_reducible refine gate_dst (N := 7) rfl ?_); refine Ext.struct_load_blk (hgd := ?hg) (t := 34) (x := ?vx_7) (ho := ?ho) (haddr := ?ha) Try.underlying34 rfl (by kernel_rfl) BK319.out ?_; (case ho => rfl); (case hg => rfl); (case ha => rfl)) | ((with_reducible refine gate_callee (f := 27) rfl ?_); refine Ext.gs (some 8) rfl rfl Try.func27 #[.agg #[.int .i64 a0_0, .int .u64 a0_1, .int .i64 a0_2, .slice A0_3 l0_3.length c0_3, .slice A0_4 l0_4.length c0_4, .slice A0_5 l0_5.length c0_5, .slice A0_6 l0_6.length c0_6]] rfl ?_; (with_reducible refine (terrierref04_room.calls k a0_0 a0_1 a0_2 (fun k_ => k_ < w.heap.size) _ _ l0_3 (fun k_ => k_ < w.heap.size) _ _ l0_4 (fun k_ => k_ < w.heap.size) _ _ l0_5 (fun k_ => k_ < w.heap.size) _ _ l0_6 t320 t323 t324 _ ?side1 ?side2 ?side3 ?side4 A2.out).mono ?_); (case side1 => exact Kd.V_mk HC0_3.out (Kd.F_below (Kd.C_F k61_heap HR0_3.out) (Ext.s1 GE319.out HB.out))); (case side2 => exact Kd.V_mk HC0_4.out (Kd.F_below (Kd.C_F k62_heap HR0_4.out) (Ext.s1 GE319.out HB.out))); (case side3 => exact Kd.V_mk HC0_5.out (Kd.F_below (Kd.C_F (Kd.heap_int .u8) HR0_5.out) (Ext.s1 GE319.out HB.out))); (case side4 => exact Kd.V_mk HC0_6.out (Kd.F_below (Kd.C_F (Kd.heap_int .i64) HR0_6.out) (Ext.s1 GE319.out HB.out))); rintro e w5 ⟨v321, rfl, ho0, hb⟩; refine ⟨_, rfl, ?_⟩; have HO322 := Ext.a (Kd.R_lower (Kd.R_mono (ok' := fun k_ => True) ho0 (fun _ hk_ => trivial)) (below_size (Ext.s1 GE319.out HB.out))); replace BK319 := Ext.a (blk_below BK319.out hb); replace HB := Ext.a (below_step (Ext.s1 GE319.out HB.out) hb); (try clear hb ho0)))
 go_ret
 exact ⟨by first | rfl | (simp [errW_none, errW_some] <;> rfl) | (simp [*, errW_none, errW_some] <;> rfl), by exact Ext.s1 GE319.out HB.out⟩



/-! ### terrierref01_Same: function 16 -/
def terrierref01_Same.f (l0 : List Int) (l1 : List Int) : Option (Bool) := some ((strOfNums l0).toList == (strOfNums l1).toList)
set_option maxHeartbeats 8000000 in
set_option maxRecDepth 100000 in
theorem terrierref01_Same.calls (A0 : Option Addr) (c0 : Nat) (l0 : List Int) (A1 : Option Addr) (c1 : Nat) (l1 : List Int) (r : Bool) (w : World) (hr0 : Kd.C (Kd.int .u8) w A0 l0.length l0) (hc0 : l0.length ≤ c0) (hr1 : Kd.C (Kd.int .u8) w A1 l1.length l1) (hc1 : l1.length ≤ c1) (h : terrierref01_Same.f l0 l1 = some r) :
  Calls Try.prog 16 #[.slice A0 l0.length c0, .slice A1 l1.length c1] w fun e w' => e = .returned (.bool r) ∧ Drawn0 w w' := by
 have HR0 := Aside0.mk hr0; have HC0 := Aside0.mk hc0; clear hr0 hc0; have HR1 := Aside0.mk hr1; have HC1 := Aside0.mk hc1; clear hr1 hc1; have H := h; unfold terrierref01_Same.f at H; clear h; obtain rfl := Option.some.inj H; have hcv3 := Kd.C_string (P := Try.prog) (A := A0) (c := c0) Try.underlying25 Try.underlying5 Try.underlying9 HR0.out; have hcv4 := Kd.C_string (P := Try.prog) (A := A1) (c := c1) Try.underlying25 Try.underlying5 Try.underlying9 HR1.out
 go_enter Try.func16, Try.ntmps16
 go_wp2
 go_ret
 exact ⟨by first | rfl | (simp; done) | (simp [*]; done), by repeat (first | exact Drawn0.refl _ | apply Drawn0.step)⟩

end Go.Proofs.Ytandeendeoempaa.PC
