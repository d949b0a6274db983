-- Written by wip/printx.py, a program of this work over the kit's print, for this claim.
import Derived.Test.YtlhjdmpclfhoeaaPJx0
import Derived.Test.YtlhjdmpclfhoeaaPJx8
import Derived.Test.YtlhjdmpclfhoeaaPJx9
import Derived.Test.YtlhjdmpclfhoeaaPJx10
import Derived.Test.YtlhjdmpclfhoeaaPJx12
namespace Go.Proofs.Ytlhjdmpclfhoeaa.PJ
open Go.RowKit Go.Proofs.YtlhjdmpclfhoeaaW.PrintWords Go.Proofs.YtlhjdmpclfhoeaaW.PrintLast Go.Proofs.YtlhjdmpclfhoeaaW.PrintMore
attribute [local go_sem] max2_int min2_int max_two min_two max_three min_three max_four min_four   -- for this text's walks alone
attribute [local go_sem] Ext.pick_u8 Ext.pick_u32 Ext.pick_u64
set_option linter.unusedVariables false
set_option linter.unusedSimpArgs false

/-! ### what is known of a struct of type 81 that came in -/
def ok81 (x : S81) : Prop := (Lit.int .i64 x.f0).wf = true ∧ ok79 x.f1 ∧ True ∧ ok79 x.f3
set_option maxRecDepth 100000 in
theorem opens81 : Open.Opens Try.prog 81 k81 ok81 := by
  intro H enc W base spare held fuel cs x h hw hu
  obtain ⟨xs, n, _, rfl, hl, hlen, hf⟩ := DataW.trod_struct Try.underlying81 h; have hl' : cs.length = 14 := hl.trans (by kernel_rfl); obtain ⟨y0, K0, o0⟩ := Open.field_at (o := 0) (s := 1) (i := 0) Try.underlying81 rfl (Open.opens_int Try.underlying3) (by kernel_rfl) rfl hlen hf hw hu; obtain ⟨y1, K1, o1⟩ := Open.field_at (o := 1) (s := 6) (i := 1) Try.underlying81 rfl opens79 (by kernel_rfl) rfl hlen hf hw hu; obtain ⟨y2, K2, o2⟩ := Open.field_at (o := 7) (s := 1) (i := 2) Try.underlying81 rfl (Open.opens_bool Try.underlying4) (by kernel_rfl) rfl hlen hf hw hu; obtain ⟨y3, K3, o3⟩ := Open.field_at (o := 8) (s := 6) (i := 3) Try.underlying81 rfl opens79 (by kernel_rfl) rfl hlen hf hw hu; have z : k81.K W (⟨y0, y1, y2, y3⟩ : S81) (cs.drop 0) := (Open.pair_piece (o := 0) (s := 1) (o' := 1) rfl K0 (Open.pair_piece (o := 1) (s := 6) (o' := 7) rfl K1 (Open.pair_piece (o := 7) (s := 1) (o' := 8) rfl K2 (Open.last_piece (o := 8) (s := 6) hl' K3)))); rw [List.drop_zero] at z
  exact ⟨_, z, o0, o1, o2, o3⟩

/-! ### what is known of a struct of type 44 that came in -/
def ok44 (x : S44) : Prop := (Lit.int .i64 x.f0).wf = true ∧ Open.okSlice ok81 176 x.f1 ∧ True ∧ (Lit.int .i64 x.f3).wf = true ∧ True ∧ (Lit.int .i64 x.f5).wf = true
set_option maxRecDepth 100000 in
theorem opens44 : Open.Opens Try.prog 44 k44 ok44 := by
  intro H enc W base spare held fuel cs x h hw hu
  obtain ⟨xs, n, _, rfl, hl, hlen, hf⟩ := DataW.trod_struct Try.underlying44 h; have hl' : cs.length = 6 := hl.trans (by kernel_rfl); obtain ⟨y0, K0, o0⟩ := Open.field_at (o := 0) (s := 1) (i := 0) Try.underlying44 rfl (Open.opens_int Try.underlying2) (by kernel_rfl) rfl hlen hf hw hu; obtain ⟨y1, K1, o1⟩ := Open.field_at (o := 1) (s := 1) (i := 1) Try.underlying44 rfl (Open.opens_slice Try.underlying42 opens81 (by kernel_rfl) (by kernel_rfl)) (by kernel_rfl) rfl hlen hf hw hu; obtain ⟨y2, K2, o2⟩ := Open.field_at (o := 2) (s := 1) (i := 2) Try.underlying44 rfl (Open.opens_bool Try.underlying4) (by kernel_rfl) rfl hlen hf hw hu; obtain ⟨y3, K3, o3⟩ := Open.field_at (o := 3) (s := 1) (i := 3) Try.underlying44 rfl (Open.opens_int Try.underlying2) (by kernel_rfl) rfl hlen hf hw hu; obtain ⟨y4, K4, o4⟩ := Open.field_at (o := 4) (s := 1) (i := 4) Try.underlying44 rfl (Open.opens_bool Try.underlying4) (by kernel_rfl) rfl hlen hf hw hu; obtain ⟨y5, K5, o5⟩ := Open.field_at (o := 5) (s := 1) (i := 5) Try.underlying44 rfl (Open.opens_int Try.underlying2) (by kernel_rfl) rfl hlen hf hw hu; have z : k44.K W (⟨y0, y1, y2, y3, y4, y5⟩ : S44) (cs.drop 0) := (Open.pair_piece (o := 0) (s := 1) (o' := 1) rfl K0 (Open.pair_piece (o := 1) (s := 1) (o' := 2) rfl K1 (Open.pair_piece (o := 2) (s := 1) (o' := 3) rfl K2 (Open.pair_piece (o := 3) (s := 1) (o' := 4) rfl K3 (Open.pair_piece (o := 4) (s := 1) (o' := 5) rfl K4 (Open.last_piece (o := 5) (s := 1) hl' K5)))))); rw [List.drop_zero] at z
  exact ⟨_, z, o0, o1, o2, o3, o4, o5⟩



/-! ### terrierlaw20_ReplyBatches: function 4 -/
def terrierlaw20_ReplyBatches.j0 : Nat → Bool → Int → List (S81) → Bool → Int → Bool → Int → Option (Bool)
 | 0, _, _, _, _, _, _, _ => none
 | k + 1, x13, x407000, x407001, x407002, x407003, x407004, x407005 => if x13 = true then ((terrierlaw20_lives.f k).bind fun t409 => (some t409)) else ((reply_EncodeBatch.f k x407000 x407001 x407002 x407003 x407004 x407005).bind fun bt410 => ((terrierref20_EncodeBatch.f k x407000 x407001 x407002 x407003 x407004 x407005).bind fun bt414 => (if bt414.2 = true then (if bt410.2 = 0 then ((terrierref01_Same.f bt410.1 bt414.1).bind fun t418 => (if t418 = true then (some true) else (some false))) else (some false)) else (if bt410.2 = 4 then (some ((bt410.1.length : Int) == 0)) else (some false)))))
def terrierlaw20_ReplyBatches.f (k : Nat) (a0_0 : Int) (l0_1 : List (S81)) (a0_2 : Bool) (a0_3 : Int) (a0_4 : Bool) (a0_5 : Int) : Option (Bool) := (terrierlaw20_lives.f k).bind fun t407 => (if t407 = true then ((terrierlaw20_fewBatch.f k a0_0 l0_1 a0_2 a0_3 a0_4 a0_5).bind fun t408 => (terrierlaw20_ReplyBatches.j0 k (!t408) a0_0 l0_1 a0_2 a0_3 a0_4 a0_5)) else (terrierlaw20_ReplyBatches.j0 k true a0_0 l0_1 a0_2 a0_3 a0_4 a0_5))
theorem terrierlaw20_ReplyBatches.mono_l : ∀ k, (∀ y0 y1 y2 y3 y4 y5 y6, LeO (terrierlaw20_ReplyBatches.j0 k y0 y1 y2 y3 y4 y5 y6) (terrierlaw20_ReplyBatches.j0 (k + 1) y0 y1 y2 y3 y4 y5 y6))
 | 0 => fun _ _ _ _ _ _ _ r h => by simp [terrierlaw20_ReplyBatches.j0] at h
 | k + 1 => by
  have ih0 := terrierlaw20_ReplyBatches.mono_l k
  ·
   intro y0 y1 y2 y3 y4 y5 y6
   unfold terrierlaw20_ReplyBatches.j0
   repeat' first
   | (with_reducible exact ih0 _ _ _ _ _ _ _)
   | (with_reducible exact reply_EncodeBatch.mono _ _ _ _ _ _ _)
   | (with_reducible exact terrierlaw20_fewBatch.mono _ _ _ _ _ _ _)
   | (with_reducible exact terrierlaw20_lives.mono _)
   | (with_reducible exact terrierref20_EncodeBatch.mono _ _ _ _ _ _ _)
   | (with_reducible exact LeO.refl _)
   | (with_reducible exact LeO.none _)
   | (with_reducible refine LeO.ite ?_ ?_)
   | (with_reducible refine LeO.bind ?_ (fun _ => ?_))
   | exact ih0 _ _ _ _ _ _ _
   | exact reply_EncodeBatch.mono _ _ _ _ _ _ _
   | exact terrierlaw20_fewBatch.mono _ _ _ _ _ _ _
   | exact terrierlaw20_lives.mono _
   | exact terrierref20_EncodeBatch.mono _ _ _ _ _ _ _
   | exact LeO.none _
   | refine LeO.ite ?_ ?_
   | refine LeO.bind ?_ (fun _ => ?_)
theorem terrierlaw20_ReplyBatches.mono : ∀ a0 a1 a2 a3 a4 a5 k, LeO (terrierlaw20_ReplyBatches.f k a0 a1 a2 a3 a4 a5) (terrierlaw20_ReplyBatches.f (k + 1) a0 a1 a2 a3 a4 a5) := by
 intro a0 a1 a2 a3 a4 a5 k
 have ih0 := terrierlaw20_ReplyBatches.mono_l k; unfold terrierlaw20_ReplyBatches.f
 repeat' first
   | (with_reducible exact ih0 _ _ _ _ _ _ _)
   | (with_reducible exact reply_EncodeBatch.mono _ _ _ _ _ _ _)
   | (with_reducible exact terrierlaw20_fewBatch.mono _ _ _ _ _ _ _)
   | (with_reducible exact terrierlaw20_lives.mono _)
   | (with_reducible exact terrierref20_EncodeBatch.mono _ _ _ _ _ _ _)
   | (with_reducible exact LeO.refl _)
   | (with_reducible exact LeO.none _)
   | (with_reducible refine LeO.ite ?_ ?_)
   | (with_reducible refine LeO.bind ?_ (fun _ => ?_))
   | exact ih0 _ _ _ _ _ _ _
   | exact reply_EncodeBatch.mono _ _ _ _ _ _ _
   | exact terrierlaw20_fewBatch.mono _ _ _ _ _ _ _
   | exact terrierlaw20_lives.mono _
   | exact terrierref20_EncodeBatch.mono _ _ _ _ _ _ _
   | exact LeO.none _
   | refine LeO.ite ?_ ?_
   | refine LeO.bind ?_ (fun _ => ?_)
set_option maxHeartbeats 8000000 in
set_option maxRecDepth 100000 in
theorem terrierlaw20_ReplyBatches.calls (k : Nat) (a0_0 : Int) (A0_1 : Option Addr) (c0_1 : Nat) (l0_1 : List (S81)) (a0_2 : Bool) (a0_3 : Int) (a0_4 : Bool) (a0_5 : Int) (r : Bool) (w : World) (hr0_1 : Kd.C k81 w A0_1 l0_1.length l0_1) (hc0_1 : l0_1.length ≤ c0_1) (h : terrierlaw20_ReplyBatches.f k a0_0 l0_1 a0_2 a0_3 a0_4 a0_5 = some r) :
  Calls Try.prog 4 #[.agg #[.int .i64 a0_0, .slice A0_1 l0_1.length c0_1, .bool a0_2, .int .i64 a0_3, .bool a0_4, .int .i64 a0_5]] w fun e w' => e = .returned (.bool r) ∧ Below w.heap.size w w' := by
 have hu44 := Try.underlying44; have HR0_1 := Aside0.mk hr0_1; have HC0_1 := Aside0.mk hc0_1; clear hr0_1 hc0_1; have HB := Ext.a (Below.refl w.heap.size w); have H := h; unfold terrierlaw20_ReplyBatches.f at H; clear h; have HC2 := Aside0.mk H; clear H
 go_enter Try.func4, Try.ntmps4
 go_upto_region 1 with (first | ((with_reducible refine gate_dst (N := 1) rfl ?_); (try (refine gate_guard (by rfl) ?_; dsimp only)); refine box_event ?hg (N := 1) ?hd (cs := #[.int .i64 a0_0, .slice A0_1 l0_1.length c0_1, .bool a0_2, .int .i64 a0_3, .bool a0_4, .int .i64 a0_5]) (t := 44) ?hr ?_; (case hd => rfl); (case hg => rfl); (case hr => first | (go_simp; done) | (go_simp; rfl)); intro gb406 hg w3 hbox hb; have BK406 := Ext.a (hbox); have GW406 := Ext.gw hg (below_size (Ext.nB HB.out)); have GE406 := Ext.gw hg (below_size (Ext.nB HB.out)); replace HB := Ext.a (below_step (Ext.nB HB.out) hb); clear hb hbox hg))
 (try simp only [Act.put, Ext.sb, Ext.sz, Ext.ss])
 go_cut [13] (fun v13 wc => ∃ (kq : Nat) (x13_1 : Bool), v13 = .bool x13_1 ∧ Aside0 (terrierlaw20_ReplyBatches.j0 kq x13_1 a0_0 l0_1 a0_2 a0_3 a0_4 a0_5 = some r) ∧ Aside0 (kq ≤ k) ∧ Aside0 (wc.heap[gb406]? = some (.cells #[.int .i64 a0_0, (.slice A0_1 l0_1.length c0_1), .bool a0_2, .int .i64 a0_3, .bool a0_4, .int .i64 a0_5] 44 (0, 0))) ∧ Aside0 (Below w.heap.size w wc))
 case first =>
  have H := HC2.out; clear HC2; replace H := Option.bind_eq_some_iff.mp H; obtain ⟨t407, A40, H⟩ := H; (try dsimp only at H); have A4 := Aside0.mk A40; clear A40
  by_cases c5 : t407 = true
  ·
   subst c5; rw [if_pos rfl] at H; replace H := Option.bind_eq_some_iff.mp H; obtain ⟨t408, A60, H⟩ := H; (try dsimp only at H); have A6 := Aside0.mk A60; clear A60; have H' := Aside0.mk H; clear H
   go_wp2_with (first | ((with_reducible refine gate_callee (f := 8) rfl ?_); refine Ext.gs (some 7) rfl rfl Try.func8 #[] rfl ?_; (with_reducible refine (terrierlaw20_lives.calls k  true _ A4.out).mono ?_); rintro e w7 ⟨rfl, hb⟩; refine ⟨_, rfl, ?_⟩; replace BK406 := Ext.a (blk_below BK406.out hb); replace HB := Ext.a (below_step (Ext.s1 GE406.out HB.out) hb); (try clear hb); obtain ⟨hcz8_0, hcz8_1, hcz8_2, hcz8_3, hcz8_4, hcz8_5⟩ := Ext.cells6 BK406.out; obtain ⟨hfz8_0, hfz8_1, hfz8_2, hfz8_3, hfz8_4, hfz8_5⟩ := Ext.froz6 BK406.out) | ((with_reducible refine gate_dst (N := 10) rfl ?_); (try (refine gate_guard (by rfl) ?_; dsimp only)); refine Ext.struct_load_blk (hgd := ?hg) (t := 44) (x := ?vx_10) (ho := ?ho) (haddr := ?ha) Try.underlying44 rfl (by kernel_rfl) BK406.out ?_; (case ho => rfl); (case hg => rfl); (case ha => rfl)) | (go_at_call 13; (with_reducible refine (terrierlaw20_fewBatch.calls k a0_0 (fun k_ => k_ < w.heap.size) _ _ l0_1 a0_2 a0_3 a0_4 a0_5 t408 _ ?side1 A6.out).mono ?_); (case side1 => exact Kd.V_mk HC0_1.out (Kd.F_below (Kd.C_F k81_heap HR0_1.out) (Ext.s1 GE406.out HB.out))); rintro e w9 ⟨rfl, hb⟩; replace BK406 := Ext.a (blk_below BK406.out hb); replace HB := Ext.a (below_step (Ext.s1 GE406.out HB.out) hb); (try clear hb)))
   go_meet
   case rel => exact ⟨_, (!t408), (by first | rfl | (simp; done) | (simp [*]; done)), H', ⟨by first | omega | exact Nat.le_refl _⟩, ⟨by exact BK406.out⟩, ⟨by exact Ext.s1 GE406.out HB.out⟩⟩
  ·
   replace c5 := Bool.eq_false_iff.mpr c5; subst c5; rw [if_neg Bool.false_ne_true] at H; have H' := Aside0.mk H; clear H
   go_wp2_with (first | ((with_reducible refine gate_callee (f := 8) rfl ?_); refine Ext.gs (some 7) rfl rfl Try.func8 #[] rfl ?_; (with_reducible refine (terrierlaw20_lives.calls k  false _ A4.out).mono ?_); rintro e w10 ⟨rfl, hb⟩; refine ⟨_, rfl, ?_⟩; replace BK406 := Ext.a (blk_below BK406.out hb); replace HB := Ext.a (below_step (Ext.s1 GE406.out HB.out) hb); (try clear hb)))
   go_meet
   case rel => exact ⟨_, (true), (by first | rfl | (simp; done) | (simp [*]; done)), H', ⟨by first | omega | exact Nat.le_refl _⟩, ⟨by exact BK406.out⟩, ⟨by exact Ext.s1 GE406.out HB.out⟩⟩
 case rest =>
  clear HC2; (try clear p2 c4 c8 hcz8_0 hcz8_1 hcz8_2 hcz8_3 hcz8_4 hcz8_5 hfz8_0 hfz8_1 hfz8_2 hfz8_3 hfz8_4 hfz8_5); obtain ⟨kq, x13_1, rfl, HA, HJ1, BK406, HB⟩ := hcut; cases kq with
  | zero => exact absurd HA.out (by simp [terrierlaw20_ReplyBatches.j0])
  | succ kj1 =>
   have H := HA.out; clear HA; simp only [terrierlaw20_ReplyBatches.j0] at H
   by_cases c11 : x13_1 = true
   ·
    subst c11; rw [if_pos rfl] at H; replace H := Option.bind_eq_some_iff.mp H; obtain ⟨t409, A120, H⟩ := H; (try dsimp only at H); have A12 := Aside0.mk A120; clear A120; obtain rfl := Option.some.inj H
    go_wp2_with (first | ((with_reducible refine gate_callee (f := 8) rfl ?_); refine Ext.gs (some 14) rfl rfl Try.func8 #[] rfl ?_; (with_reducible refine (terrierlaw20_lives.calls kj1  t409 _ A12.out).mono ?_); rintro e w13 ⟨rfl, hb⟩; refine ⟨_, rfl, ?_⟩; replace BK406 := Ext.a (blk_below BK406.out hb); replace HB := Ext.a (below_step (Ext.s1 GE406.out HB.out) hb); (try clear hb)))
    go_ret
    exact ⟨by first | rfl | (simp [errW_none, errW_some] <;> rfl) | (simp [*, errW_none, errW_some] <;> rfl), by exact Ext.s1 GE406.out HB.out⟩
   ·
    replace c11 := Bool.eq_false_iff.mpr c11; subst c11; rw [if_neg Bool.false_ne_true] at H; replace H := Option.bind_eq_some_iff.mp H; obtain ⟨⟨t410, t413⟩, A140, H⟩ := H; (try dsimp only at H); have A14 := Aside0.mk A140; clear A140; replace H := Option.bind_eq_some_iff.mp H; obtain ⟨⟨t414, t417⟩, A150, H⟩ := H; (try dsimp only at H); have A15 := Aside0.mk A150; clear A150
    by_cases c16 : t417 = true
    ·
     subst c16; rw [if_pos rfl] at H
     by_cases c17 : t413 = 0
     ·
      rw [if_pos c17] at H; obtain ⟨c17b0, c17b1⟩ := Ext.eT c17; clear c17; replace H := Option.bind_eq_some_iff.mp H; obtain ⟨t418, A180, H⟩ := H; (try dsimp only at H); have A18 := Aside0.mk A180; clear A180
      by_cases c19 : t418 = true
      ·
       subst c19; rw [if_pos rfl] at H; obtain rfl := Option.some.inj H; obtain ⟨hcz20_0, hcz20_1, hcz20_2, hcz20_3, hcz20_4, hcz20_5⟩ := Ext.cells6 BK406.out; obtain ⟨hfz20_0, hfz20_1, hfz20_2, hfz20_3, hfz20_4, hfz20_5⟩ := Ext.froz6 BK406.out
       go_wp2_with (first | ((with_reducible refine gate_dst (N := 16) rfl ?_); (try (refine gate_guard (by rfl) ?_; dsimp only)); refine Ext.struct_load_blk (hgd := ?hg) (t := 44) (x := ?vx_16) (ho := ?ho) (haddr := ?ha) Try.underlying44 rfl (by kernel_rfl) BK406.out ?_; (case ho => rfl); (case hg => rfl); (case ha => rfl)) | ((with_reducible refine gate_callee (f := 14) rfl ?_); refine Ext.gs (some 17) rfl rfl Try.func14 #[.agg #[.int .i64 a0_0, .slice A0_1 l0_1.length c0_1, .bool a0_2, .int .i64 a0_3, .bool a0_4, .int .i64 a0_5]] rfl ?_; (with_reducible refine (reply_EncodeBatch.calls kj1 a0_0 _ _ l0_1 a0_2 a0_3 a0_4 a0_5 t410 t413 _ ?side1 ?side2 A14.out).mono ?_); (case side1 => first | exact Ext.kC HR0_1.out HB.out | exact Ext.nC HR0_1.out); (case side2 => exact HC0_1.out); rintro e w21 ⟨v411, rfl, ho0, hb⟩; refine ⟨_, rfl, ?_⟩; have HO412 := Ext.a (Kd.R_lower ho0 (below_size (Ext.s1 GE406.out HB.out))); replace BK406 := Ext.a (blk_below BK406.out hb); replace HB := Ext.a (below_step (Ext.s1 GE406.out HB.out) hb); (try clear hb ho0); obtain ⟨hcz22_0, hcz22_1, hcz22_2, hcz22_3, hcz22_4, hcz22_5⟩ := Ext.cells6 BK406.out; obtain ⟨hfz22_0, hfz22_1, hfz22_2, hfz22_3, hfz22_4, hfz22_5⟩ := Ext.froz6 BK406.out) | ((with_reducible refine gate_dst (N := 21) rfl ?_); (try (refine gate_guard (by rfl) ?_; dsimp only)); refine Ext.struct_load_blk (hgd := ?hg) (t := 44) (x := ?vx_21) (ho := ?ho) (haddr := ?ha) Try.underlying44 rfl (by kernel_rfl) BK406.out ?_; (case ho => rfl); (case hg => rfl); (case ha => rfl)) | ((with_reducible refine gate_callee (f := 15) rfl ?_); refine Ext.gs (some 22) rfl rfl Try.func15 #[.agg #[.int .i64 a0_0, .slice A0_1 l0_1.length c0_1, .bool a0_2, .int .i64 a0_3, .bool a0_4, .int .i64 a0_5]] rfl ?_; (with_reducible refine (terrierref20_EncodeBatch.calls kj1 a0_0 _ _ l0_1 a0_2 a0_3 a0_4 a0_5 t414 true _ ?side1 ?side2 A15.out).mono ?_); (case side1 => first | exact Ext.kC HR0_1.out HB.out | exact Ext.nC HR0_1.out); (case side2 => exact HC0_1.out); rintro e w23 ⟨v415, rfl, ho0, hb⟩; refine ⟨_, rfl, ?_⟩; have HO416 := Ext.a (Kd.R_lower (Kd.R_new' ho0 (Kd.R_lt (Ext.nR HO412.out))) (below_size (Ext.s1 GE406.out HB.out))); replace HO412 := Ext.a (Kd.R_elder' (Ext.nR HO412.out) (Kd.R_base ho0) hb); replace BK406 := Ext.a (blk_below BK406.out hb); replace HB := Ext.a (below_step (Ext.s1 GE406.out HB.out) hb); (try clear hb ho0); obtain ⟨Ao24, co24, eo24⟩ := Kd.R_slice HO412.out; subst eo24; obtain ⟨Ao25, co25, eo25⟩ := Kd.R_slice HO416.out; subst eo25) | (go_at_call 12; (with_reducible refine (terrierref01_Same.calls _ _ t410 _ _ t414 true _ ?side1 ?side2 ?side3 ?side4 A18.out).mono ?_); (case side1 => exact Ext.nC (Kd.R_reads' HO412.out).2.2); (case side2 => exact (Kd.R_reads' HO412.out).2.1); (case side3 => exact Ext.nC (Kd.R_reads' HO416.out).2.2); (case side4 => exact (Kd.R_reads' HO416.out).2.1); rintro e w' ⟨rfl, ⟨nd, rfl⟩⟩))
       go_ret
       exact ⟨by first | rfl | (simp [errW_none, errW_some] <;> rfl) | (simp [*, errW_none, errW_some] <;> rfl), by exact Ext.s1 GE406.out HB.out⟩
      ·
       replace c19 := Bool.eq_false_iff.mpr c19; subst c19; rw [if_neg Bool.false_ne_true] at H; obtain rfl := Option.some.inj H; obtain ⟨hcz26_0, hcz26_1, hcz26_2, hcz26_3, hcz26_4, hcz26_5⟩ := Ext.cells6 BK406.out; obtain ⟨hfz26_0, hfz26_1, hfz26_2, hfz26_3, hfz26_4, hfz26_5⟩ := Ext.froz6 BK406.out
       go_wp2_with (first | ((with_reducible refine gate_dst (N := 16) rfl ?_); (try (refine gate_guard (by rfl) ?_; dsimp only)); refine Ext.struct_load_blk (hgd := ?hg) (t := 44) (x := ?vx_16) (ho := ?ho) (haddr := ?ha) Try.underlying44 rfl (by kernel_rfl) BK406.out ?_; (case ho => rfl); (case hg => rfl); (case ha => rfl)) | ((with_reducible refine gate_callee (f := 14) rfl ?_); refine Ext.gs (some 17) rfl rfl Try.func14 #[.agg #[.int .i64 a0_0, .slice A0_1 l0_1.length c0_1, .bool a0_2, .int .i64 a0_3, .bool a0_4, .int .i64 a0_5]] rfl ?_; (with_reducible refine (reply_EncodeBatch.calls kj1 a0_0 _ _ l0_1 a0_2 a0_3 a0_4 a0_5 t410 t413 _ ?side1 ?side2 A14.out).mono ?_); (case side1 => first | exact Ext.kC HR0_1.out HB.out | exact Ext.nC HR0_1.out); (case side2 => exact HC0_1.out); rintro e w27 ⟨v411, rfl, ho0, hb⟩; refine ⟨_, rfl, ?_⟩; have HO412 := Ext.a (Kd.R_lower ho0 (below_size (Ext.s1 GE406.out HB.out))); replace BK406 := Ext.a (blk_below BK406.out hb); replace HB := Ext.a (below_step (Ext.s1 GE406.out HB.out) hb); (try clear hb ho0); obtain ⟨hcz28_0, hcz28_1, hcz28_2, hcz28_3, hcz28_4, hcz28_5⟩ := Ext.cells6 BK406.out; obtain ⟨hfz28_0, hfz28_1, hfz28_2, hfz28_3, hfz28_4, hfz28_5⟩ := Ext.froz6 BK406.out) | ((with_reducible refine gate_dst (N := 21) rfl ?_); (try (refine gate_guard (by rfl) ?_; dsimp only)); refine Ext.struct_load_blk (hgd := ?hg) (t := 44) (x := ?vx_21) (ho := ?ho) (haddr := ?ha) Try.underlying44 rfl (by kernel_rfl) BK406.out ?_; (case ho => rfl); (case hg => rfl); (case ha => rfl)) | ((with_reducible refine gate_callee (f := 15) rfl ?_); refine Ext.gs (some 22) rfl rfl Try.func15 #[.agg #[.int .i64 a0_0, .slice A0_1 l0_1.length c0_1, .bool a0_2, .int .i64 a0_3, .bool a0_4, .int .i64 a0_5]] rfl ?_; (with_reducible refine (terrierref20_EncodeBatch.calls kj1 a0_0 _ _ l0_1 a0_2 a0_3 a0_4 a0_5 t414 true _ ?side1 ?side2 A15.out).mono ?_); (case side1 => first | exact Ext.kC HR0_1.out HB.out | exact Ext.nC HR0_1.out); (case side2 => exact HC0_1.out); rintro e w29 ⟨v415, rfl, ho0, hb⟩; refine ⟨_, rfl, ?_⟩; have HO416 := Ext.a (Kd.R_lower (Kd.R_new' ho0 (Kd.R_lt (Ext.nR HO412.out))) (below_size (Ext.s1 GE406.out HB.out))); replace HO412 := Ext.a (Kd.R_elder' (Ext.nR HO412.out) (Kd.R_base ho0) hb); replace BK406 := Ext.a (blk_below BK406.out hb); replace HB := Ext.a (below_step (Ext.s1 GE406.out HB.out) hb); (try clear hb ho0); obtain ⟨Ao30, co30, eo30⟩ := Kd.R_slice HO412.out; subst eo30; obtain ⟨Ao31, co31, eo31⟩ := Kd.R_slice HO416.out; subst eo31) | (go_at_call 12; (with_reducible refine (terrierref01_Same.calls _ _ t410 _ _ t414 false _ ?side1 ?side2 ?side3 ?side4 A18.out).mono ?_); (case side1 => exact Ext.nC (Kd.R_reads' HO412.out).2.2); (case side2 => exact (Kd.R_reads' HO412.out).2.1); (case side3 => exact Ext.nC (Kd.R_reads' HO416.out).2.2); (case side4 => exact (Kd.R_reads' HO416.out).2.1); rintro e w' ⟨rfl, ⟨nd, rfl⟩⟩))
       go_ret
       exact ⟨by first | rfl | (simp [errW_none, errW_some] <;> rfl) | (simp [*, errW_none, errW_some] <;> rfl), by exact Ext.s1 GE406.out HB.out⟩
     ·
      rw [if_neg c17] at H; obtain ⟨c17b0, c17b1⟩ := Ext.eF c17; obtain rfl := Option.some.inj H; obtain ⟨hcz32_0, hcz32_1, hcz32_2, hcz32_3, hcz32_4, hcz32_5⟩ := Ext.cells6 BK406.out; obtain ⟨hfz32_0, hfz32_1, hfz32_2, hfz32_3, hfz32_4, hfz32_5⟩ := Ext.froz6 BK406.out
      go_wp2_with (first | ((with_reducible refine gate_dst (N := 16) rfl ?_); (try (refine gate_guard (by rfl) ?_; dsimp only)); refine Ext.struct_load_blk (hgd := ?hg) (t := 44) (x := ?vx_16) (ho := ?ho) (haddr := ?ha) Try.underlying44 rfl (by kernel_rfl) BK406.out ?_; (case ho => rfl); (case hg => rfl); (case ha => rfl)) | ((with_reducible refine gate_callee (f := 14) rfl ?_); refine Ext.gs (some 17) rfl rfl Try.func14 #[.agg #[.int .i64 a0_0, .slice A0_1 l0_1.length c0_1, .bool a0_2, .int .i64 a0_3, .bool a0_4, .int .i64 a0_5]] rfl ?_; (with_reducible refine (reply_EncodeBatch.calls kj1 a0_0 _ _ l0_1 a0_2 a0_3 a0_4 a0_5 t410 t413 _ ?side1 ?side2 A14.out).mono ?_); (case side1 => first | exact Ext.kC HR0_1.out HB.out | exact Ext.nC HR0_1.out); (case side2 => exact HC0_1.out); rintro e w33 ⟨v411, rfl, ho0, hb⟩; refine ⟨_, rfl, ?_⟩; have HO412 := Ext.a (Kd.R_lower ho0 (below_size (Ext.s1 GE406.out HB.out))); replace BK406 := Ext.a (blk_below BK406.out hb); replace HB := Ext.a (below_step (Ext.s1 GE406.out HB.out) hb); (try clear hb ho0); obtain ⟨hcz34_0, hcz34_1, hcz34_2, hcz34_3, hcz34_4, hcz34_5⟩ := Ext.cells6 BK406.out; obtain ⟨hfz34_0, hfz34_1, hfz34_2, hfz34_3, hfz34_4, hfz34_5⟩ := Ext.froz6 BK406.out) | ((with_reducible refine gate_dst (N := 21) rfl ?_); (try (refine gate_guard (by rfl) ?_; dsimp only)); refine Ext.struct_load_blk (hgd := ?hg) (t := 44) (x := ?vx_21) (ho := ?ho) (haddr := ?ha) Try.underlying44 rfl (by kernel_rfl) BK406.out ?_; (case ho => rfl); (case hg => rfl); (case ha => rfl)) | ((with_reducible refine gate_callee (f := 15) rfl ?_); refine Ext.gs (some 22) rfl rfl Try.func15 #[.agg #[.int .i64 a0_0, .slice A0_1 l0_1.length c0_1, .bool a0_2, .int .i64 a0_3, .bool a0_4, .int .i64 a0_5]] rfl ?_; (with_reducible refine (terrierref20_EncodeBatch.calls kj1 a0_0 _ _ l0_1 a0_2 a0_3 a0_4 a0_5 t414 true _ ?side1 ?side2 A15.out).mono ?_); (case side1 => first | exact Ext.kC HR0_1.out HB.out | exact Ext.nC HR0_1.out); (case side2 => exact HC0_1.out); rintro e w35 ⟨v415, rfl, ho0, hb⟩; refine ⟨_, rfl, ?_⟩; have HO416 := Ext.a (Kd.R_lower (Kd.R_new' ho0 (Kd.R_lt (Ext.nR HO412.out))) (below_size (Ext.s1 GE406.out HB.out))); replace HO412 := Ext.a (Kd.R_elder' (Ext.nR HO412.out) (Kd.R_base ho0) hb); replace BK406 := Ext.a (blk_below BK406.out hb); replace HB := Ext.a (below_step (Ext.s1 GE406.out HB.out) hb); (try clear hb ho0)))
      go_ret
      exact ⟨by first | rfl | (simp [errW_none, errW_some] <;> rfl) | (simp [*, errW_none, errW_some] <;> rfl), by exact Ext.s1 GE406.out HB.out⟩
    ·
     replace c16 := Bool.eq_false_iff.mpr c16; subst c16; rw [if_neg Bool.false_ne_true] at H
     by_cases c36 : t413 = 4
     ·
      rw [if_pos c36] at H; obtain ⟨c36b0, c36b1⟩ := Ext.eT c36; clear c36; obtain rfl := Option.some.inj H; obtain ⟨hcz37_0, hcz37_1, hcz37_2, hcz37_3, hcz37_4, hcz37_5⟩ := Ext.cells6 BK406.out; obtain ⟨hfz37_0, hfz37_1, hfz37_2, hfz37_3, hfz37_4, hfz37_5⟩ := Ext.froz6 BK406.out
      go_wp2_with (first | ((with_reducible refine gate_dst (N := 16) rfl ?_); (try (refine gate_guard (by rfl) ?_; dsimp only)); refine Ext.struct_load_blk (hgd := ?hg) (t := 44) (x := ?vx_16) (ho := ?ho) (haddr := ?ha) Try.underlying44 rfl (by kernel_rfl) BK406.out ?_; (case ho => rfl); (case hg => rfl); (case ha => rfl)) | ((with_reducible refine gate_callee (f := 14) rfl ?_); refine Ext.gs (some 17) rfl rfl Try.func14 #[.agg #[.int .i64 a0_0, .slice A0_1 l0_1.length c0_1, .bool a0_2, .int .i64 a0_3, .bool a0_4, .int .i64 a0_5]] rfl ?_; (with_reducible refine (reply_EncodeBatch.calls kj1 a0_0 _ _ l0_1 a0_2 a0_3 a0_4 a0_5 t410 t413 _ ?side1 ?side2 A14.out).mono ?_); (case side1 => first | exact Ext.kC HR0_1.out HB.out | exact Ext.nC HR0_1.out); (case side2 => exact HC0_1.out); rintro e w38 ⟨v411, rfl, ho0, hb⟩; refine ⟨_, rfl, ?_⟩; have HO412 := Ext.a (Kd.R_lower ho0 (below_size (Ext.s1 GE406.out HB.out))); replace BK406 := Ext.a (blk_below BK406.out hb); replace HB := Ext.a (below_step (Ext.s1 GE406.out HB.out) hb); (try clear hb ho0); obtain ⟨hcz39_0, hcz39_1, hcz39_2, hcz39_3, hcz39_4, hcz39_5⟩ := Ext.cells6 BK406.out; obtain ⟨hfz39_0, hfz39_1, hfz39_2, hfz39_3, hfz39_4, hfz39_5⟩ := Ext.froz6 BK406.out) | ((with_reducible refine gate_dst (N := 21) rfl ?_); (try (refine gate_guard (by rfl) ?_; dsimp only)); refine Ext.struct_load_blk (hgd := ?hg) (t := 44) (x := ?vx_21) (ho := ?ho) (haddr := ?ha) Try.underlying44 rfl (by kernel_rfl) BK406.out ?_; (case ho => rfl); (case hg => rfl); (case ha => rfl)) | ((with_reducible refine gate_callee (f := 15) rfl ?_); refine Ext.gs (some 22) rfl rfl Try.func15 #[.agg #[.int .i64 a0_0, .slice A0_1 l0_1.length c0_1, .bool a0_2, .int .i64 a0_3, .bool a0_4, .int .i64 a0_5]] rfl ?_; (with_reducible refine (terrierref20_EncodeBatch.calls kj1 a0_0 _ _ l0_1 a0_2 a0_3 a0_4 a0_5 t414 false _ ?side1 ?side2 A15.out).mono ?_); (case side1 => first | exact Ext.kC HR0_1.out HB.out | exact Ext.nC HR0_1.out); (case side2 => exact HC0_1.out); rintro e w40 ⟨v415, rfl, ho0, hb⟩; refine ⟨_, rfl, ?_⟩; have HO416 := Ext.a (Kd.R_lower (Kd.R_new' ho0 (Kd.R_lt (Ext.nR HO412.out))) (below_size (Ext.s1 GE406.out HB.out))); replace HO412 := Ext.a (Kd.R_elder' (Ext.nR HO412.out) (Kd.R_base ho0) hb); replace BK406 := Ext.a (blk_below BK406.out hb); replace HB := Ext.a (below_step (Ext.s1 GE406.out HB.out) hb); (try clear hb ho0); obtain ⟨Ao41, co41, eo41⟩ := Kd.R_slice HO412.out; subst eo41))
      go_ret
      exact ⟨by first | rfl | (simp [errW_none, errW_some] <;> rfl) | (simp [*, errW_none, errW_some] <;> rfl), by exact Ext.s1 GE406.out HB.out⟩
     ·
      rw [if_neg c36] at H; obtain ⟨c36b0, c36b1⟩ := Ext.eF c36; obtain rfl := Option.some.inj H; obtain ⟨hcz42_0, hcz42_1, hcz42_2, hcz42_3, hcz42_4, hcz42_5⟩ := Ext.cells6 BK406.out; obtain ⟨hfz42_0, hfz42_1, hfz42_2, hfz42_3, hfz42_4, hfz42_5⟩ := Ext.froz6 BK406.out
      go_wp2_with (first | ((with_reducible refine gate_dst (N := 16) rfl ?_); (try (refine gate_guard (by rfl) ?_; dsimp only)); refine Ext.struct_load_blk (hgd := ?hg) (t := 44) (x := ?vx_16) (ho := ?ho) (haddr := ?ha) Try.underlying44 rfl (by kernel_rfl) BK406.out ?_; (case ho => rfl); (case hg => rfl); (case ha => rfl)) | ((with_reducible refine gate_callee (f := 14) rfl ?_); refine Ext.gs (some 17) rfl rfl Try.func14 #[.agg #[.int .i64 a0_0, .slice A0_1 l0_1.length c0_1, .bool a0_2, .int .i64 a0_3, .bool a0_4, .int .i64 a0_5]] rfl ?_; (with_reducible refine (reply_EncodeBatch.calls kj1 a0_0 _ _ l0_1 a0_2 a0_3 a0_4 a0_5 t410 t413 _ ?side1 ?side2 A14.out).mono ?_); (case side1 => first | exact Ext.kC HR0_1.out HB.out | exact Ext.nC HR0_1.out); (case side2 => exact HC0_1.out); rintro e w43 ⟨v411, rfl, ho0, hb⟩; refine ⟨_, rfl, ?_⟩; have HO412 := Ext.a (Kd.R_lower ho0 (below_size (Ext.s1 GE406.out HB.out))); replace BK406 := Ext.a (blk_below BK406.out hb); replace HB := Ext.a (below_step (Ext.s1 GE406.out HB.out) hb); (try clear hb ho0); obtain ⟨hcz44_0, hcz44_1, hcz44_2, hcz44_3, hcz44_4, hcz44_5⟩ := Ext.cells6 BK406.out; obtain ⟨hfz44_0, hfz44_1, hfz44_2, hfz44_3, hfz44_4, hfz44_5⟩ := Ext.froz6 BK406.out) | ((with_reducible refine gate_dst (N := 21) rfl ?_); (try (refine gate_guard (by rfl) ?_; dsimp only)); refine Ext.struct_load_blk (hgd := ?hg) (t := 44) (x := ?vx_21) (ho := ?ho) (haddr := ?ha) Try.underlying44 rfl (by kernel_rfl) BK406.out ?_; (case ho => rfl); (case hg => rfl); (case ha => rfl)) | ((with_reducible refine gate_callee (f := 15) rfl ?_); refine Ext.gs (some 22) rfl rfl Try.func15 #[.agg #[.int .i64 a0_0, .slice A0_1 l0_1.length c0_1, .bool a0_2, .int .i64 a0_3, .bool a0_4, .int .i64 a0_5]] rfl ?_; (with_reducible refine (terrierref20_EncodeBatch.calls kj1 a0_0 _ _ l0_1 a0_2 a0_3 a0_4 a0_5 t414 false _ ?side1 ?side2 A15.out).mono ?_); (case side1 => first | exact Ext.kC HR0_1.out HB.out | exact Ext.nC HR0_1.out); (case side2 => exact HC0_1.out); rintro e w45 ⟨v415, rfl, ho0, hb⟩; refine ⟨_, rfl, ?_⟩; have HO416 := Ext.a (Kd.R_lower (Kd.R_new' ho0 (Kd.R_lt (Ext.nR HO412.out))) (below_size (Ext.s1 GE406.out HB.out))); replace HO412 := Ext.a (Kd.R_elder' (Ext.nR HO412.out) (Kd.R_base ho0) hb); replace BK406 := Ext.a (blk_below BK406.out hb); replace HB := Ext.a (below_step (Ext.s1 GE406.out HB.out) hb); (try clear hb ho0)))
      go_ret
      exact ⟨by first | rfl | (simp [errW_none, errW_some] <;> rfl) | (simp [*, errW_none, errW_some] <;> rfl), by exact Ext.s1 GE406.out HB.out⟩

/-- THE ONE PURE STATEMENT of terrierlaw20_ReplyBatches: yours. -/
def terrierlaw20_ReplyBatches.Pure : Prop := ∀ (a0_0 : Int) (l0_1 : List (S81)) (a0_2 : Bool) (a0_3 : Int) (a0_4 : Bool) (a0_5 : Int), (ok44 (⟨a0_0, l0_1, a0_2, a0_3, a0_4, a0_5⟩ : S44)) → ∃ k, terrierlaw20_ReplyBatches.f k a0_0 l0_1 a0_2 a0_3 a0_4 a0_5 = some true
theorem terrierlaw20_ReplyBatches.walk (P : terrierlaw20_ReplyBatches.Pure) (a0_0 : Int) (A0_1 : Option Addr) (c0_1 : Nat) (l0_1 : List (S81)) (a0_2 : Bool) (a0_3 : Int) (a0_4 : Bool) (a0_5 : Int) (w : World) (hk0 : ok44 (⟨a0_0, l0_1, a0_2, a0_3, a0_4, a0_5⟩ : S44)) (hr0_1 : Kd.C k81 w A0_1 l0_1.length l0_1) (hc0_1 : l0_1.length ≤ c0_1) :
  Calls Try.prog 4 #[.agg #[.int .i64 a0_0, .slice A0_1 l0_1.length c0_1, .bool a0_2, .int .i64 a0_3, .bool a0_4, .int .i64 a0_5]] w fun e w' => e = .returned (.bool true) ∧ Below w.heap.size w w' := by
 obtain ⟨k, h⟩ := P a0_0 l0_1 a0_2 a0_3 a0_4 a0_5 hk0; refine (terrierlaw20_ReplyBatches.calls k a0_0 _ _ l0_1 a0_2 a0_3 a0_4 a0_5 true w hr0_1 hc0_1 h).mono ?_; rintro e w' ⟨rfl, hd⟩
 exact ⟨rfl, hd⟩

end Go.Proofs.Ytlhjdmpclfhoeaa.PJ
