-- Written by wip/printx.py, a program of this work over the kit's print, for this claim.
import Derived.Test.YtandeendeoempaaPMx0
import Derived.Test.YtandeendeoempaaPMx7
import Derived.Test.YtandeendeoempaaPMx8
import Derived.Test.YtandeendeoempaaPMx11
import Derived.Test.YtandeendeoempaaPMx14
namespace Go.Proofs.Ytandeendeoempaa.PM
open Go.RowKit Go.Proofs.YtandeendeoempaaW.PrintWords Go.Proofs.YtandeendeoempaaW.PrintLast Go.Proofs.YtandeendeoempaaW.PrintMore
attribute [local go_sem] max2_int min2_int max_two min_two max_three min_three max_four min_four   -- for this text's walks alone
attribute [local go_sem] Ext.pick_u8 Ext.pick_u32 Ext.pick_u64
set_option linter.unusedVariables false
set_option linter.unusedSimpArgs false



/-! ### terrierlaw04_PagePieces: function 8 -/
mutual
def terrierlaw04_PagePieces.j0 : Nat → List Int → Int → Int → Bool → Option (Bool)
 | 0, _, _, _, _ => none
 | k + 1, x0, x1, x2, x17 => if x17 = true then ((terrierlaw04_lives.f k).bind fun t385 => (some t385)) else ((page_Encode.f k 3 x1 (wrap64 (Int.tmod (IntKind.u64.wrap (x2)) 1024)) ([] : List (S44)) ([] : List (S60)) x0 ([] : List Int)).bind fun bt386 => (if (x0.length : Int) < 1 then (terrierlaw04_PagePieces.j1 k x0 x1 (wrap64 (Int.tmod (IntKind.u64.wrap (x2)) 1024)) bt386.1 bt386.2 true) else (terrierlaw04_PagePieces.j1 k x0 x1 (wrap64 (Int.tmod (IntKind.u64.wrap (x2)) 1024)) bt386.1 bt386.2 (decide ((x0.length : Int) > 237)))))
def terrierlaw04_PagePieces.j1 : Nat → List Int → Int → Int → List Int → Int → Bool → Option (Bool)
 | 0, _, _, _, _, _, _ => none
 | k + 1, x0, x1, x2, x7, x8, x38 => if x38 = true then (if x8 = 4 then (some ((x7.length : Int) == 0)) else (some false)) else ((page_Decode.f k x7).bind fun bt390 => (if x8 = 0 then (if bt390.2.2.2.2.2.2.2 = 0 then (if bt390.1 = 3 then (if bt390.2.1 = x1 then (if bt390.2.2.1 = x2 then ((terrierref01_Same.f bt390.2.2.2.2.2.1 x0).bind fun t407 => (some t407)) else (some false)) else (some false)) else (some false)) else (some false)) else (some false)))
end
def terrierlaw04_PagePieces.f (k : Nat) (l0 : List Int) (a1 : Int) (a2 : Int) : Option (Bool) := (terrierlaw04_lives.f k).bind fun t384 => (if t384 = true then (terrierlaw04_PagePieces.j0 k l0 a1 a2 (decide ((l0.length : Int) > 1000))) else (terrierlaw04_PagePieces.j0 k l0 a1 a2 true))
theorem terrierlaw04_PagePieces.mono_l : ∀ k, (∀ y0 y1 y2 y3, LeO (terrierlaw04_PagePieces.j0 k y0 y1 y2 y3) (terrierlaw04_PagePieces.j0 (k + 1) y0 y1 y2 y3)) ∧ (∀ y0 y1 y2 y3 y4 y5, LeO (terrierlaw04_PagePieces.j1 k y0 y1 y2 y3 y4 y5) (terrierlaw04_PagePieces.j1 (k + 1) y0 y1 y2 y3 y4 y5))
 | 0 => ⟨fun _ _ _ _ r h => by simp [terrierlaw04_PagePieces.j0] at h, fun _ _ _ _ _ _ r h => by simp [terrierlaw04_PagePieces.j1] at h⟩
 | k + 1 => by
  obtain ⟨ih0, ih1⟩ := terrierlaw04_PagePieces.mono_l k; refine ⟨?_, ?_⟩
  ·
   intro y0 y1 y2 y3
   unfold terrierlaw04_PagePieces.j0
   repeat' first
   | (with_reducible exact ih0 _ _ _ _)
   | (with_reducible exact ih1 _ _ _ _ _ _)
   | (with_reducible exact page_Decode.mono _ _)
   | (with_reducible exact page_Encode.mono _ _ _ _ _ _ _ _)
   | (with_reducible exact terrierlaw04_lives.mono _)
   | (with_reducible exact LeO.refl _)
   | (with_reducible exact LeO.none _)
   | (with_reducible refine LeO.ite ?_ ?_)
   | (with_reducible refine LeO.bind ?_ (fun _ => ?_))
   | exact ih0 _ _ _ _
   | exact ih1 _ _ _ _ _ _
   | exact page_Decode.mono _ _
   | exact page_Encode.mono _ _ _ _ _ _ _ _
   | exact terrierlaw04_lives.mono _
   | exact LeO.none _
   | refine LeO.ite ?_ ?_
   | refine LeO.bind ?_ (fun _ => ?_)
  ·
   intro y0 y1 y2 y3 y4 y5
   unfold terrierlaw04_PagePieces.j1
   repeat' first
   | (with_reducible exact ih0 _ _ _ _)
   | (with_reducible exact ih1 _ _ _ _ _ _)
   | (with_reducible exact page_Decode.mono _ _)
   | (with_reducible exact page_Encode.mono _ _ _ _ _ _ _ _)
   | (with_reducible exact terrierlaw04_lives.mono _)
   | (with_reducible exact LeO.refl _)
   | (with_reducible exact LeO.none _)
   | (with_reducible refine LeO.ite ?_ ?_)
   | (with_reducible refine LeO.bind ?_ (fun _ => ?_))
   | exact ih0 _ _ _ _
   | exact ih1 _ _ _ _ _ _
   | exact page_Decode.mono _ _
   | exact page_Encode.mono _ _ _ _ _ _ _ _
   | exact terrierlaw04_lives.mono _
   | exact LeO.none _
   | refine LeO.ite ?_ ?_
   | refine LeO.bind ?_ (fun _ => ?_)
theorem terrierlaw04_PagePieces.mono : ∀ a0 a1 a2 k, LeO (terrierlaw04_PagePieces.f k a0 a1 a2) (terrierlaw04_PagePieces.f (k + 1) a0 a1 a2) := by
 intro a0 a1 a2 k
 obtain ⟨ih0, ih1⟩ := terrierlaw04_PagePieces.mono_l k; unfold terrierlaw04_PagePieces.f
 repeat' first
   | (with_reducible exact ih0 _ _ _ _)
   | (with_reducible exact ih1 _ _ _ _ _ _)
   | (with_reducible exact page_Decode.mono _ _)
   | (with_reducible exact page_Encode.mono _ _ _ _ _ _ _ _)
   | (with_reducible exact terrierlaw04_lives.mono _)
   | (with_reducible exact LeO.refl _)
   | (with_reducible exact LeO.none _)
   | (with_reducible refine LeO.ite ?_ ?_)
   | (with_reducible refine LeO.bind ?_ (fun _ => ?_))
   | exact ih0 _ _ _ _
   | exact ih1 _ _ _ _ _ _
   | exact page_Decode.mono _ _
   | exact page_Encode.mono _ _ _ _ _ _ _ _
   | exact terrierlaw04_lives.mono _
   | exact LeO.none _
   | refine LeO.ite ?_ ?_
   | refine LeO.bind ?_ (fun _ => ?_)
set_option maxHeartbeats 8000000 in
set_option maxRecDepth 100000 in
theorem terrierlaw04_PagePieces.calls (k : Nat) (A0 : Option Addr) (c0 : Nat) (l0 : List Int) (a1 : Int) (a2 : Int) (r : Bool) (w : World) (hr0 : Kd.C (Kd.int .u8) w A0 l0.length l0) (hc0 : l0.length ≤ c0) (h : terrierlaw04_PagePieces.f k l0 a1 a2 = some r) :
  Calls Try.prog 8 #[.slice A0 l0.length c0, .int .u64 a1, .int .i64 a2] w fun e w' => e = .returned (.bool r) ∧ Below w.heap.size w w' := by
 have hu28 := Try.underlying28; have HR0 := Aside0.mk hr0; have HC0 := Aside0.mk hc0; clear hr0 hc0; have HB := Ext.a (Below.refl w.heap.size w); have H := h; unfold terrierlaw04_PagePieces.f at H; clear h; have HC4 := Aside0.mk H; clear H
 go_enter Try.func8, Try.ntmps8
 go_upto_region 1 with (fail)
 go_cut [17] (fun v17 wc => ∃ (kq : Nat) (x17_3 : Bool), v17 = .bool x17_3 ∧ Aside0 (terrierlaw04_PagePieces.j0 kq l0 a1 a2 x17_3 = some r) ∧ Aside0 (kq ≤ k) ∧ Aside0 (Below w.heap.size w wc))
 case first =>
  have H := HC4.out; clear HC4; replace H := Option.bind_eq_some_iff.mp H; obtain ⟨t384, A50, H⟩ := H; (try dsimp only at H); have A5 := Aside0.mk A50; clear A50
  by_cases c6 : t384 = true
  ·
   subst c6; rw [if_pos rfl] at H; have H' := Aside0.mk H; clear H
   go_wp2_with (first | ((with_reducible refine gate_callee (f := 9) rfl ?_); refine Ext.gs (some 11) rfl rfl Try.func9 #[] rfl ?_; (with_reducible refine (terrierlaw04_lives.calls k  true _ A5.out).mono ?_); rintro e w7 ⟨rfl, hb⟩; refine ⟨_, rfl, ?_⟩; replace HB := Ext.a (below_step (Ext.nB HB.out) hb); (try clear hb)))
   go_meet
   case rel => exact ⟨_, (decide ((l0.length : Int) > 1000)), (by first | rfl | (simp; done) | (simp [*]; done)), H', ⟨by first | omega | exact Nat.le_refl _⟩, ⟨by exact Ext.nB HB.out⟩⟩
  ·
   replace c6 := Bool.eq_false_iff.mpr c6; subst c6; rw [if_neg Bool.false_ne_true] at H; have H' := Aside0.mk H; clear H
   go_wp2_with (first | ((with_reducible refine gate_callee (f := 9) rfl ?_); refine Ext.gs (some 11) rfl rfl Try.func9 #[] rfl ?_; (with_reducible refine (terrierlaw04_lives.calls k  false _ A5.out).mono ?_); rintro e w8 ⟨rfl, hb⟩; refine ⟨_, rfl, ?_⟩; replace HB := Ext.a (below_step (Ext.nB HB.out) hb); (try clear hb)))
   go_meet
   case rel => exact ⟨_, (true), (by first | rfl | (simp; done) | (simp [*]; done)), H', ⟨by first | omega | exact Nat.le_refl _⟩, ⟨by exact Ext.nB HB.out⟩⟩
 case rest =>
  clear HC4; (try clear p2 c8); obtain ⟨kq, x17_3, rfl, HA, HJ3, HB⟩ := hcut; cases kq with
  | zero => exact absurd HA.out (by simp [terrierlaw04_PagePieces.j0])
  | succ kj3 =>
   have H := HA.out; clear HA; simp only [terrierlaw04_PagePieces.j0] at H
   by_cases c9 : x17_3 = true
   ·
    subst c9; rw [if_pos rfl] at H; replace H := Option.bind_eq_some_iff.mp H; obtain ⟨t385, A100, H⟩ := H; (try dsimp only at H); have A10 := Aside0.mk A100; clear A100; obtain rfl := Option.some.inj H
    go_wp2_with (first | ((with_reducible refine gate_callee (f := 9) rfl ?_); refine Ext.gs (some 18) rfl rfl Try.func9 #[] rfl ?_; (with_reducible refine (terrierlaw04_lives.calls kj3  t385 _ A10.out).mono ?_); rintro e w11 ⟨rfl, hb⟩; refine ⟨_, rfl, ?_⟩; replace HB := Ext.a (below_step (Ext.nB HB.out) hb); (try clear hb)))
    go_ret
    exact ⟨by first | rfl | (simp [errW_none, errW_some] <;> rfl) | (simp [*, errW_none, errW_some] <;> rfl), by exact Ext.nB HB.out⟩
   ·
    replace c9 := Bool.eq_false_iff.mpr c9; subst c9; rw [if_neg Bool.false_ne_true] at H; replace H := Option.bind_eq_some_iff.mp H; obtain ⟨⟨t386, t389⟩, A120, H⟩ := H; (try dsimp only at H); have A12 := Aside0.mk A120; clear A120; have HC13 := Aside0.mk H; clear H
    go_upto_region 5 with (first | ((with_reducible refine gate_callee (f := 12) rfl ?_); refine Ext.gs (some 28) rfl rfl Try.func12 #[.agg #[.int .i64 3, .int .u64 a1, .int .i64 (wrap64 (Int.tmod (IntKind.u64.wrap (a2)) 1024)), .slice none 0 0, .slice none 0 0, .slice A0 l0.length c0, .slice none 0 0]] rfl ?_; (refine (page_Encode.calls kj3 3 a1 (wrap64 (Int.tmod (IntKind.u64.wrap (a2)) 1024)) _ _ ([] : List (S44)) _ _ ([] : List (S60)) _ _ l0 _ _ ([] : List Int) t386 t389 _ ?side1 ?side2 ?side3 ?side4 ?side5 ?side6 ?side7 ?side8 A12.out).mono ?_); (case side1 => exact Kd.C_nil _ _); (case side2 => exact Nat.le_refl _); (case side3 => exact Kd.C_nil _ _); (case side4 => exact Nat.le_refl _); (case side5 => first | exact Ext.kC HR0.out HB.out | exact Ext.nC HR0.out); (case side6 => exact HC0.out); (case side7 => exact Kd.C_nil _ _); (case side8 => exact Nat.le_refl _); rintro e w14 ⟨v387, rfl, ho0, hb⟩; refine ⟨_, rfl, ?_⟩; have HO388 := Ext.a (Kd.R_lower ho0 (below_size (Ext.nB HB.out))); replace HB := Ext.a (below_step (Ext.nB HB.out) hb); (try clear hb ho0)))
    (try simp only [Act.put, Ext.sb, Ext.sz, Ext.ss])
    go_cut [38] (fun v38 wc => ∃ (kq : Nat) (x38_12 : Bool), v38 = .bool x38_12 ∧ Aside0 (terrierlaw04_PagePieces.j1 kq l0 a1 (wrap64 (Int.tmod (IntKind.u64.wrap (a2)) 1024)) t386 t389 x38_12 = some r) ∧ Aside0 (kq ≤ kj3) ∧ Aside0 (Kd.R (Kd.int .u8) 5 wc w.heap.size (fun _ => True) v387 t386) ∧ Aside0 (Below w.heap.size w wc))
    case first =>
     have H := HC13.out; clear HC13
     by_cases c15 : (l0.length : Int) < 1
     case' _ =>
      rw [if_pos c15] at H; have c15b0 := decide_eq_true c15; have c15b1 : decide (l0.length < 1) = true := decide_eq_true (by omega); clear c15
      (first | rw [c15b0] | (simp only [i64_w, i32_w]; rw [c15b0]) | skip)
     rotate_left 1
     case' _ =>
      rw [if_neg c15] at H; have c15b0 := decide_eq_false c15; have c15b1 : decide (l0.length < 1) = false := decide_eq_false (by omega); clear c15
      (first | rw [c15b0] | (simp only [i64_w, i32_w]; rw [c15b0]) | skip)
     all_goals (have H' := Aside0.mk H; clear H; go_wp2; go_meet; (case rel => exact ⟨_, _, (by first | rfl | (simp; done) | (simp [*]; done)), H', ⟨by have := HJ3.out; first | omega | exact Nat.le_refl _⟩, ⟨by exact Ext.nR HO388.out⟩, ⟨by exact Ext.nB HB.out⟩⟩))
    case rest =>
     clear HC13; (try clear c1 p6 c12 c15b0 c15b1); obtain ⟨kq, x38_12, rfl, HA, HJ12, HO_7, HB⟩ := hcut; cases kq with
     | zero => exact absurd HA.out (by simp [terrierlaw04_PagePieces.j1])
     | succ kj12 =>
      have H := HA.out; clear HA; simp only [terrierlaw04_PagePieces.j1] at H
      by_cases c16 : x38_12 = true
      ·
       subst c16; rw [if_pos rfl] at H
       by_cases c17 : t389 = 4
       ·
        rw [if_pos c17] at H; obtain ⟨c17b0, c17b1⟩ := Ext.eT c17; clear c17; obtain rfl := Option.some.inj H; obtain ⟨Ao18, co18, eo18⟩ := Kd.R_slice HO_7.out; subst eo18
        go_wp2
        go_ret
        exact ⟨by first | rfl | (simp [errW_none, errW_some] <;> rfl) | (simp [*, errW_none, errW_some] <;> rfl), by exact Ext.nB HB.out⟩
       ·
        rw [if_neg c17] at H; obtain ⟨c17b0, c17b1⟩ := Ext.eF c17; obtain rfl := Option.some.inj H
        go_wp2
        go_ret
        exact ⟨by first | rfl | (simp [errW_none, errW_some] <;> rfl) | (simp [*, errW_none, errW_some] <;> rfl), by exact Ext.nB HB.out⟩
      ·
       replace c16 := Bool.eq_false_iff.mpr c16; subst c16; rw [if_neg Bool.false_ne_true] at H; replace H := Option.bind_eq_some_iff.mp H; obtain ⟨⟨t390, t391, t392, t393, t396, t399, t402, t405⟩, A190, H⟩ := H; (try dsimp only at H); have A19 := Aside0.mk A190; clear A190
       by_cases c20 : t389 = 0
       ·
        rw [if_pos c20] at H; obtain ⟨c20b0, c20b1⟩ := Ext.eT c20; clear c20
        by_cases c21 : t405 = 0
        ·
         rw [if_pos c21] at H; obtain ⟨c21b0, c21b1⟩ := Ext.eT c21; clear c21
         by_cases c22 : t390 = 3
         ·
          rw [if_pos c22] at H; obtain ⟨c22b0, c22b1⟩ := Ext.eT c22; clear c22
          by_cases c23 : t391 = a1
          ·
           rw [if_pos c23] at H; obtain ⟨c23b0, c23b1⟩ := Ext.eT c23; clear c23
           by_cases c24 : t392 = (wrap64 (Int.tmod (IntKind.u64.wrap (a2)) 1024))
           ·
            rw [if_pos c24] at H; obtain ⟨c24b0, c24b1⟩ := Ext.eT c24; clear c24; replace H := Option.bind_eq_some_iff.mp H; obtain ⟨t407, A250, H⟩ := H; (try dsimp only at H); have A25 := Aside0.mk A250; clear A250; obtain rfl := Option.some.inj H; obtain ⟨Ao26, co26, eo26⟩ := Kd.R_slice HO_7.out; subst eo26
            go_wp2_with (first | ((with_reducible refine gate_callee (f := 22) rfl ?_); refine Ext.gs (some 48) rfl rfl Try.func22 #[.slice Ao26 t386.length co26] rfl ?_; (with_reducible refine (page_Decode.calls kj12 _ _ t386 t390 t391 t392 t393 t396 t399 t402 t405 _ ?side1 ?side2 A19.out).mono ?_); (case side1 => exact Ext.nC (Kd.R_reads' HO_7.out).2.2); (case side2 => exact (Kd.R_reads' HO_7.out).2.1); rintro e w27 ⟨v394, v397, v400, v403, rfl, ho0, ho1, ho2, ho3, hb⟩; refine ⟨_, rfl, ?_⟩; have HO395 := Ext.a (Kd.S_lower (Kd.S_new' ho0 (Kd.R_lt (Ext.nR HO_7.out))) (below_size (Ext.nB HB.out))); have HO398 := Ext.a (Kd.S_lower (Kd.S_new' ho1 (Kd.R_lt (Ext.nR HO_7.out))) (below_size (Ext.nB HB.out))); have HO401 := Ext.a (Kd.R_lower (Kd.R_new' ho2 (Kd.R_lt (Ext.nR HO_7.out))) (below_size (Ext.nB HB.out))); replace HO_7 := Ext.a (Kd.R_elder' (Ext.nR HO_7.out) (Kd.R_base ho2) hb); have HO404 := Ext.a (Kd.R_lower ho3 (below_size (Ext.nB HB.out))); replace HB := Ext.a (below_step (Ext.nB HB.out) hb); (try clear hb ho0 ho1 ho2 ho3)) | ((with_reducible refine gate_dst (N := 9) rfl ?_); (try (refine gate_guard (by rfl) ?_; dsimp only)); refine Ext.alloc_event (hgd := ?hg) (N := 9) (_hd := ?hd) (t := 28) (ho := ?ho) info28 ?_; (case ho => rfl); (case hd => rfl); (case hg => rfl); intro gb406 hg w28 hbox hb; replace HO_7 := Ext.a (Kd.R_below (Ext.nR HO_7.out) hb); replace HO395 := Ext.a (Kd.S_below (Ext.nS HO395.out) hb); replace HO398 := Ext.a (Kd.S_below (Ext.nS HO398.out) hb); replace HO401 := Ext.a (Kd.R_below (Ext.nR HO401.out) hb); replace HO404 := Ext.a (Kd.R_below (Ext.nR HO404.out) hb); have BK406 := Ext.a (hbox); have GW406 := Ext.gw hg (below_size (Ext.nB HB.out)); have GE406 := Ext.gw hg (below_size (Ext.nB HB.out)); replace HB := Ext.a (below_step (Ext.nB HB.out) hb); clear hb hbox hg; have hcz29 := Ext.cells7 BK406.out; have hfz29 := Ext.froz7 BK406.out; obtain ⟨Ao30, co30, eo30⟩ := Kd.S_slice HO395.out; subst eo30; obtain ⟨Ao31, co31, eo31⟩ := Kd.S_slice HO398.out; subst eo31; obtain ⟨Ao32, co32, eo32⟩ := Kd.R_slice HO401.out; subst eo32; obtain ⟨Ao33, co33, eo33⟩ := Kd.R_slice HO404.out; subst eo33) | ((with_reducible refine gate_store (t := 28) (p := 9) rfl ?_); refine Ext.struct_store (hgd := ?hg) (hN := ?hn) (t := 28) (p := .tmp 9) (x := ?vo_w34) (ho := ?ho) (cells := #[.int .i64 t390, .int .u64 t391, .int .i64 t392, .slice Ao30 t393.length co30, .slice Ao31 t396.length co31, .slice Ao32 t399.length co32, .slice Ao33 t402.length co33]) (haddr := ?ha) (hx := ?hx) BK406.out rfl (by kernel_rfl) rfl ?_; (case ho => rfl); (case hg => rfl); (case hn => rfl); (case ha => rfl); (case hx => first | rfl | (go_simp; done)); intro w34 hx_ hk_ hbl_; replace HO_7 := Ext.a (Kd.R_mono (Kd.R_keep (Kd.R_types HO_7.out BK406.out (by decide)) hk_ (fun _ h => h.2)) (fun _ h => h.1)); replace HO395 := Ext.a (Kd.S_mono (Kd.S_keep (Kd.S_types HO395.out BK406.out (by decide)) hk_ (fun _ h => h.2)) (fun _ h => h.1)); replace HO398 := Ext.a (Kd.S_mono (Kd.S_keep (Kd.S_types HO398.out BK406.out (by decide)) hk_ (fun _ h => h.2)) (fun _ h => h.1)); replace HO401 := Ext.a (Kd.R_mono (Kd.R_keep (Kd.R_types HO401.out BK406.out (by decide)) hk_ (fun _ h => h.2)) (fun _ h => h.1)); replace HO404 := Ext.a (Kd.R_mono (Kd.R_keep (Kd.R_types HO404.out BK406.out (by decide)) hk_ (fun _ h => h.2)) (fun _ h => h.1)); replace BK406 := Ext.a (hx_); replace HB := Ext.a (hbl_ _ _ HB.out GE406.out); clear hx_ hk_ hbl_; have hcz35 := Ext.cells7 BK406.out; have hfz35 := Ext.froz7 BK406.out) | (go_at_call 16; (with_reducible refine (terrierref01_Same.calls _ _ t399 _ _ l0 t407 _ ?side1 ?side2 ?side3 ?side4 A25.out).mono ?_); (case side1 => exact Ext.nC (Kd.R_reads' HO401.out).2.2); (case side2 => exact (Kd.R_reads' HO401.out).2.1); (case side3 => first | exact Ext.kC HR0.out HB.out | exact Ext.nC HR0.out); (case side4 => exact HC0.out); rintro e w' ⟨rfl, ⟨nd, rfl⟩⟩))
            go_ret
            exact ⟨by first | rfl | (simp [errW_none, errW_some] <;> rfl) | (simp [*, errW_none, errW_some] <;> rfl), by exact Ext.s1 GE406.out HB.out⟩
           ·
            rw [if_neg c24] at H; obtain ⟨c24b0, c24b1⟩ := Ext.eF c24; obtain rfl := Option.some.inj H; obtain ⟨Ao36, co36, eo36⟩ := Kd.R_slice HO_7.out; subst eo36
            go_wp2_with (first | ((with_reducible refine gate_callee (f := 22) rfl ?_); refine Ext.gs (some 48) rfl rfl Try.func22 #[.slice Ao36 t386.length co36] rfl ?_; (with_reducible refine (page_Decode.calls kj12 _ _ t386 t390 t391 t392 t393 t396 t399 t402 t405 _ ?side1 ?side2 A19.out).mono ?_); (case side1 => exact Ext.nC (Kd.R_reads' HO_7.out).2.2); (case side2 => exact (Kd.R_reads' HO_7.out).2.1); rintro e w37 ⟨v394, v397, v400, v403, rfl, ho0, ho1, ho2, ho3, hb⟩; refine ⟨_, rfl, ?_⟩; have HO395 := Ext.a (Kd.S_lower (Kd.S_new' ho0 (Kd.R_lt (Ext.nR HO_7.out))) (below_size (Ext.nB HB.out))); have HO398 := Ext.a (Kd.S_lower (Kd.S_new' ho1 (Kd.R_lt (Ext.nR HO_7.out))) (below_size (Ext.nB HB.out))); have HO401 := Ext.a (Kd.R_lower (Kd.R_new' ho2 (Kd.R_lt (Ext.nR HO_7.out))) (below_size (Ext.nB HB.out))); replace HO_7 := Ext.a (Kd.R_elder' (Ext.nR HO_7.out) (Kd.R_base ho2) hb); have HO404 := Ext.a (Kd.R_lower ho3 (below_size (Ext.nB HB.out))); replace HB := Ext.a (below_step (Ext.nB HB.out) hb); (try clear hb ho0 ho1 ho2 ho3)) | ((with_reducible refine gate_dst (N := 9) rfl ?_); (try (refine gate_guard (by rfl) ?_; dsimp only)); refine Ext.alloc_event (hgd := ?hg) (N := 9) (_hd := ?hd) (t := 28) (ho := ?ho) info28 ?_; (case ho => rfl); (case hd => rfl); (case hg => rfl); intro gb406 hg w38 hbox hb; replace HO_7 := Ext.a (Kd.R_below (Ext.nR HO_7.out) hb); replace HO395 := Ext.a (Kd.S_below (Ext.nS HO395.out) hb); replace HO398 := Ext.a (Kd.S_below (Ext.nS HO398.out) hb); replace HO401 := Ext.a (Kd.R_below (Ext.nR HO401.out) hb); replace HO404 := Ext.a (Kd.R_below (Ext.nR HO404.out) hb); have BK406 := Ext.a (hbox); have GW406 := Ext.gw hg (below_size (Ext.nB HB.out)); have GE406 := Ext.gw hg (below_size (Ext.nB HB.out)); replace HB := Ext.a (below_step (Ext.nB HB.out) hb); clear hb hbox hg; have hcz39 := Ext.cells7 BK406.out; have hfz39 := Ext.froz7 BK406.out; obtain ⟨Ao40, co40, eo40⟩ := Kd.S_slice HO395.out; subst eo40; obtain ⟨Ao41, co41, eo41⟩ := Kd.S_slice HO398.out; subst eo41; obtain ⟨Ao42, co42, eo42⟩ := Kd.R_slice HO401.out; subst eo42; obtain ⟨Ao43, co43, eo43⟩ := Kd.R_slice HO404.out; subst eo43) | ((with_reducible refine gate_store (t := 28) (p := 9) rfl ?_); refine Ext.struct_store (hgd := ?hg) (hN := ?hn) (t := 28) (p := .tmp 9) (x := ?vo_w44) (ho := ?ho) (cells := #[.int .i64 t390, .int .u64 t391, .int .i64 t392, .slice Ao40 t393.length co40, .slice Ao41 t396.length co41, .slice Ao42 t399.length co42, .slice Ao43 t402.length co43]) (haddr := ?ha) (hx := ?hx) BK406.out rfl (by kernel_rfl) rfl ?_; (case ho => rfl); (case hg => rfl); (case hn => rfl); (case ha => rfl); (case hx => first | rfl | (go_simp; done)); intro w44 hx_ hk_ hbl_; replace HO_7 := Ext.a (Kd.R_mono (Kd.R_keep (Kd.R_types HO_7.out BK406.out (by decide)) hk_ (fun _ h => h.2)) (fun _ h => h.1)); replace HO395 := Ext.a (Kd.S_mono (Kd.S_keep (Kd.S_types HO395.out BK406.out (by decide)) hk_ (fun _ h => h.2)) (fun _ h => h.1)); replace HO398 := Ext.a (Kd.S_mono (Kd.S_keep (Kd.S_types HO398.out BK406.out (by decide)) hk_ (fun _ h => h.2)) (fun _ h => h.1)); replace HO401 := Ext.a (Kd.R_mono (Kd.R_keep (Kd.R_types HO401.out BK406.out (by decide)) hk_ (fun _ h => h.2)) (fun _ h => h.1)); replace HO404 := Ext.a (Kd.R_mono (Kd.R_keep (Kd.R_types HO404.out BK406.out (by decide)) hk_ (fun _ h => h.2)) (fun _ h => h.1)); replace BK406 := Ext.a (hx_); replace HB := Ext.a (hbl_ _ _ HB.out GE406.out); clear hx_ hk_ hbl_; have hcz45 := Ext.cells7 BK406.out; have hfz45 := Ext.froz7 BK406.out))
            go_ret
            exact ⟨by first | rfl | (simp [errW_none, errW_some] <;> rfl) | (simp [*, errW_none, errW_some] <;> rfl), by exact Ext.s1 GE406.out HB.out⟩
          ·
           rw [if_neg c23] at H; obtain ⟨c23b0, c23b1⟩ := Ext.eF c23; obtain rfl := Option.some.inj H; obtain ⟨Ao46, co46, eo46⟩ := Kd.R_slice HO_7.out; subst eo46
           go_wp2_with (first | ((with_reducible refine gate_callee (f := 22) rfl ?_); refine Ext.gs (some 48) rfl rfl Try.func22 #[.slice Ao46 t386.length co46] rfl ?_; (with_reducible refine (page_Decode.calls kj12 _ _ t386 t390 t391 t392 t393 t396 t399 t402 t405 _ ?side1 ?side2 A19.out).mono ?_); (case side1 => exact Ext.nC (Kd.R_reads' HO_7.out).2.2); (case side2 => exact (Kd.R_reads' HO_7.out).2.1); rintro e w47 ⟨v394, v397, v400, v403, rfl, ho0, ho1, ho2, ho3, hb⟩; refine ⟨_, rfl, ?_⟩; have HO395 := Ext.a (Kd.S_lower (Kd.S_new' ho0 (Kd.R_lt (Ext.nR HO_7.out))) (below_size (Ext.nB HB.out))); have HO398 := Ext.a (Kd.S_lower (Kd.S_new' ho1 (Kd.R_lt (Ext.nR HO_7.out))) (below_size (Ext.nB HB.out))); have HO401 := Ext.a (Kd.R_lower (Kd.R_new' ho2 (Kd.R_lt (Ext.nR HO_7.out))) (below_size (Ext.nB HB.out))); replace HO_7 := Ext.a (Kd.R_elder' (Ext.nR HO_7.out) (Kd.R_base ho2) hb); have HO404 := Ext.a (Kd.R_lower ho3 (below_size (Ext.nB HB.out))); replace HB := Ext.a (below_step (Ext.nB HB.out) hb); (try clear hb ho0 ho1 ho2 ho3)) | ((with_reducible refine gate_dst (N := 9) rfl ?_); (try (refine gate_guard (by rfl) ?_; dsimp only)); refine Ext.alloc_event (hgd := ?hg) (N := 9) (_hd := ?hd) (t := 28) (ho := ?ho) info28 ?_; (case ho => rfl); (case hd => rfl); (case hg => rfl); intro gb406 hg w48 hbox hb; replace HO_7 := Ext.a (Kd.R_below (Ext.nR HO_7.out) hb); replace HO395 := Ext.a (Kd.S_below (Ext.nS HO395.out) hb); replace HO398 := Ext.a (Kd.S_below (Ext.nS HO398.out) hb); replace HO401 := Ext.a (Kd.R_below (Ext.nR HO401.out) hb); replace HO404 := Ext.a (Kd.R_below (Ext.nR HO404.out) hb); have BK406 := Ext.a (hbox); have GW406 := Ext.gw hg (below_size (Ext.nB HB.out)); have GE406 := Ext.gw hg (below_size (Ext.nB HB.out)); replace HB := Ext.a (below_step (Ext.nB HB.out) hb); clear hb hbox hg; have hcz49 := Ext.cells7 BK406.out; have hfz49 := Ext.froz7 BK406.out; obtain ⟨Ao50, co50, eo50⟩ := Kd.S_slice HO395.out; subst eo50; obtain ⟨Ao51, co51, eo51⟩ := Kd.S_slice HO398.out; subst eo51; obtain ⟨Ao52, co52, eo52⟩ := Kd.R_slice HO401.out; subst eo52; obtain ⟨Ao53, co53, eo53⟩ := Kd.R_slice HO404.out; subst eo53) | ((with_reducible refine gate_store (t := 28) (p := 9) rfl ?_); refine Ext.struct_store (hgd := ?hg) (hN := ?hn) (t := 28) (p := .tmp 9) (x := ?vo_w54) (ho := ?ho) (cells := #[.int .i64 t390, .int .u64 t391, .int .i64 t392, .slice Ao50 t393.length co50, .slice Ao51 t396.length co51, .slice Ao52 t399.length co52, .slice Ao53 t402.length co53]) (haddr := ?ha) (hx := ?hx) BK406.out rfl (by kernel_rfl) rfl ?_; (case ho => rfl); (case hg => rfl); (case hn => rfl); (case ha => rfl); (case hx => first | rfl | (go_simp; done)); intro w54 hx_ hk_ hbl_; replace HO_7 := Ext.a (Kd.R_mono (Kd.R_keep (Kd.R_types HO_7.out BK406.out (by decide)) hk_ (fun _ h => h.2)) (fun _ h => h.1)); replace HO395 := Ext.a (Kd.S_mono (Kd.S_keep (Kd.S_types HO395.out BK406.out (by decide)) hk_ (fun _ h => h.2)) (fun _ h => h.1)); replace HO398 := Ext.a (Kd.S_mono (Kd.S_keep (Kd.S_types HO398.out BK406.out (by decide)) hk_ (fun _ h => h.2)) (fun _ h => h.1)); replace HO401 := Ext.a (Kd.R_mono (Kd.R_keep (Kd.R_types HO401.out BK406.out (by decide)) hk_ (fun _ h => h.2)) (fun _ h => h.1)); replace HO404 := Ext.a (Kd.R_mono (Kd.R_keep (Kd.R_types HO404.out BK406.out (by decide)) hk_ (fun _ h => h.2)) (fun _ h => h.1)); replace BK406 := Ext.a (hx_); replace HB := Ext.a (hbl_ _ _ HB.out GE406.out); clear hx_ hk_ hbl_; have hcz55 := Ext.cells7 BK406.out; have hfz55 := Ext.froz7 BK406.out))
           go_ret
           exact ⟨by first | rfl | (simp [errW_none, errW_some] <;> rfl) | (simp [*, errW_none, errW_some] <;> rfl), by exact Ext.s1 GE406.out HB.out⟩
         ·
          rw [if_neg c22] at H; obtain ⟨c22b0, c22b1⟩ := Ext.eF c22; obtain rfl := Option.some.inj H; obtain ⟨Ao56, co56, eo56⟩ := Kd.R_slice HO_7.out; subst eo56
          go_wp2_with (first | ((with_reducible refine gate_callee (f := 22) rfl ?_); refine Ext.gs (some 48) rfl rfl Try.func22 #[.slice Ao56 t386.length co56] rfl ?_; (with_reducible refine (page_Decode.calls kj12 _ _ t386 t390 t391 t392 t393 t396 t399 t402 t405 _ ?side1 ?side2 A19.out).mono ?_); (case side1 => exact Ext.nC (Kd.R_reads' HO_7.out).2.2); (case side2 => exact (Kd.R_reads' HO_7.out).2.1); rintro e w57 ⟨v394, v397, v400, v403, rfl, ho0, ho1, ho2, ho3, hb⟩; refine ⟨_, rfl, ?_⟩; have HO395 := Ext.a (Kd.S_lower (Kd.S_new' ho0 (Kd.R_lt (Ext.nR HO_7.out))) (below_size (Ext.nB HB.out))); have HO398 := Ext.a (Kd.S_lower (Kd.S_new' ho1 (Kd.R_lt (Ext.nR HO_7.out))) (below_size (Ext.nB HB.out))); have HO401 := Ext.a (Kd.R_lower (Kd.R_new' ho2 (Kd.R_lt (Ext.nR HO_7.out))) (below_size (Ext.nB HB.out))); replace HO_7 := Ext.a (Kd.R_elder' (Ext.nR HO_7.out) (Kd.R_base ho2) hb); have HO404 := Ext.a (Kd.R_lower ho3 (below_size (Ext.nB HB.out))); replace HB := Ext.a (below_step (Ext.nB HB.out) hb); (try clear hb ho0 ho1 ho2 ho3)) | ((with_reducible refine gate_dst (N := 9) rfl ?_); (try (refine gate_guard (by rfl) ?_; dsimp only)); refine Ext.alloc_event (hgd := ?hg) (N := 9) (_hd := ?hd) (t := 28) (ho := ?ho) info28 ?_; (case ho => rfl); (case hd => rfl); (case hg => rfl); intro gb406 hg w58 hbox hb; replace HO_7 := Ext.a (Kd.R_below (Ext.nR HO_7.out) hb); replace HO395 := Ext.a (Kd.S_below (Ext.nS HO395.out) hb); replace HO398 := Ext.a (Kd.S_below (Ext.nS HO398.out) hb); replace HO401 := Ext.a (Kd.R_below (Ext.nR HO401.out) hb); replace HO404 := Ext.a (Kd.R_below (Ext.nR HO404.out) hb); have BK406 := Ext.a (hbox); have GW406 := Ext.gw hg (below_size (Ext.nB HB.out)); have GE406 := Ext.gw hg (below_size (Ext.nB HB.out)); replace HB := Ext.a (below_step (Ext.nB HB.out) hb); clear hb hbox hg; have hcz59 := Ext.cells7 BK406.out; have hfz59 := Ext.froz7 BK406.out; obtain ⟨Ao60, co60, eo60⟩ := Kd.S_slice HO395.out; subst eo60; obtain ⟨Ao61, co61, eo61⟩ := Kd.S_slice HO398.out; subst eo61; obtain ⟨Ao62, co62, eo62⟩ := Kd.R_slice HO401.out; subst eo62; obtain ⟨Ao63, co63, eo63⟩ := Kd.R_slice HO404.out; subst eo63) | ((with_reducible refine gate_store (t := 28) (p := 9) rfl ?_); refine Ext.struct_store (hgd := ?hg) (hN := ?hn) (t := 28) (p := .tmp 9) (x := ?vo_w64) (ho := ?ho) (cells := #[.int .i64 t390, .int .u64 t391, .int .i64 t392, .slice Ao60 t393.length co60, .slice Ao61 t396.length co61, .slice Ao62 t399.length co62, .slice Ao63 t402.length co63]) (haddr := ?ha) (hx := ?hx) BK406.out rfl (by kernel_rfl) rfl ?_; (case ho => rfl); (case hg => rfl); (case hn => rfl); (case ha => rfl); (case hx => first | rfl | (go_simp; done)); intro w64 hx_ hk_ hbl_; replace HO_7 := Ext.a (Kd.R_mono (Kd.R_keep (Kd.R_types HO_7.out BK406.out (by decide)) hk_ (fun _ h => h.2)) (fun _ h => h.1)); replace HO395 := Ext.a (Kd.S_mono (Kd.S_keep (Kd.S_types HO395.out BK406.out (by decide)) hk_ (fun _ h => h.2)) (fun _ h => h.1)); replace HO398 := Ext.a (Kd.S_mono (Kd.S_keep (Kd.S_types HO398.out BK406.out (by decide)) hk_ (fun _ h => h.2)) (fun _ h => h.1)); replace HO401 := Ext.a (Kd.R_mono (Kd.R_keep (Kd.R_types HO401.out BK406.out (by decide)) hk_ (fun _ h => h.2)) (fun _ h => h.1)); replace HO404 := Ext.a (Kd.R_mono (Kd.R_keep (Kd.R_types HO404.out BK406.out (by decide)) hk_ (fun _ h => h.2)) (fun _ h => h.1)); replace BK406 := Ext.a (hx_); replace HB := Ext.a (hbl_ _ _ HB.out GE406.out); clear hx_ hk_ hbl_; have hcz65 := Ext.cells7 BK406.out; have hfz65 := Ext.froz7 BK406.out))
          go_ret
          exact ⟨by first | rfl | (simp [errW_none, errW_some] <;> rfl) | (simp [*, errW_none, errW_some] <;> rfl), by exact Ext.s1 GE406.out HB.out⟩
        ·
         rw [if_neg c21] at H; obtain ⟨c21b0, c21b1⟩ := Ext.eF c21; obtain rfl := Option.some.inj H; obtain ⟨Ao66, co66, eo66⟩ := Kd.R_slice HO_7.out; subst eo66
         go_wp2_with (first | ((with_reducible refine gate_callee (f := 22) rfl ?_); refine Ext.gs (some 48) rfl rfl Try.func22 #[.slice Ao66 t386.length co66] rfl ?_; (with_reducible refine (page_Decode.calls kj12 _ _ t386 t390 t391 t392 t393 t396 t399 t402 t405 _ ?side1 ?side2 A19.out).mono ?_); (case side1 => exact Ext.nC (Kd.R_reads' HO_7.out).2.2); (case side2 => exact (Kd.R_reads' HO_7.out).2.1); rintro e w67 ⟨v394, v397, v400, v403, rfl, ho0, ho1, ho2, ho3, hb⟩; refine ⟨_, rfl, ?_⟩; have HO395 := Ext.a (Kd.S_lower (Kd.S_new' ho0 (Kd.R_lt (Ext.nR HO_7.out))) (below_size (Ext.nB HB.out))); have HO398 := Ext.a (Kd.S_lower (Kd.S_new' ho1 (Kd.R_lt (Ext.nR HO_7.out))) (below_size (Ext.nB HB.out))); have HO401 := Ext.a (Kd.R_lower (Kd.R_new' ho2 (Kd.R_lt (Ext.nR HO_7.out))) (below_size (Ext.nB HB.out))); replace HO_7 := Ext.a (Kd.R_elder' (Ext.nR HO_7.out) (Kd.R_base ho2) hb); have HO404 := Ext.a (Kd.R_lower ho3 (below_size (Ext.nB HB.out))); replace HB := Ext.a (below_step (Ext.nB HB.out) hb); (try clear hb ho0 ho1 ho2 ho3)) | ((with_reducible refine gate_dst (N := 9) rfl ?_); (try (refine gate_guard (by rfl) ?_; dsimp only)); refine Ext.alloc_event (hgd := ?hg) (N := 9) (_hd := ?hd) (t := 28) (ho := ?ho) info28 ?_; (case ho => rfl); (case hd => rfl); (case hg => rfl); intro gb406 hg w68 hbox hb; replace HO_7 := Ext.a (Kd.R_below (Ext.nR HO_7.out) hb); replace HO395 := Ext.a (Kd.S_below (Ext.nS HO395.out) hb); replace HO398 := Ext.a (Kd.S_below (Ext.nS HO398.out) hb); replace HO401 := Ext.a (Kd.R_below (Ext.nR HO401.out) hb); replace HO404 := Ext.a (Kd.R_below (Ext.nR HO404.out) hb); have BK406 := Ext.a (hbox); have GW406 := Ext.gw hg (below_size (Ext.nB HB.out)); have GE406 := Ext.gw hg (below_size (Ext.nB HB.out)); replace HB := Ext.a (below_step (Ext.nB HB.out) hb); clear hb hbox hg; have hcz69 := Ext.cells7 BK406.out; have hfz69 := Ext.froz7 BK406.out; obtain ⟨Ao70, co70, eo70⟩ := Kd.S_slice HO395.out; subst eo70; obtain ⟨Ao71, co71, eo71⟩ := Kd.S_slice HO398.out; subst eo71; obtain ⟨Ao72, co72, eo72⟩ := Kd.R_slice HO401.out; subst eo72; obtain ⟨Ao73, co73, eo73⟩ := Kd.R_slice HO404.out; subst eo73) | ((with_reducible refine gate_store (t := 28) (p := 9) rfl ?_); refine Ext.struct_store (hgd := ?hg) (hN := ?hn) (t := 28) (p := .tmp 9) (x := ?vo_w74) (ho := ?ho) (cells := #[.int .i64 t390, .int .u64 t391, .int .i64 t392, .slice Ao70 t393.length co70, .slice Ao71 t396.length co71, .slice Ao72 t399.length co72, .slice Ao73 t402.length co73]) (haddr := ?ha) (hx := ?hx) BK406.out rfl (by kernel_rfl) rfl ?_; (case ho => rfl); (case hg => rfl); (case hn => rfl); (case ha => rfl); (case hx => first | rfl | (go_simp; done)); intro w74 hx_ hk_ hbl_; replace HO_7 := Ext.a (Kd.R_mono (Kd.R_keep (Kd.R_types HO_7.out BK406.out (by decide)) hk_ (fun _ h => h.2)) (fun _ h => h.1)); replace HO395 := Ext.a (Kd.S_mono (Kd.S_keep (Kd.S_types HO395.out BK406.out (by decide)) hk_ (fun _ h => h.2)) (fun _ h => h.1)); replace HO398 := Ext.a (Kd.S_mono (Kd.S_keep (Kd.S_types HO398.out BK406.out (by decide)) hk_ (fun _ h => h.2)) (fun _ h => h.1)); replace HO401 := Ext.a (Kd.R_mono (Kd.R_keep (Kd.R_types HO401.out BK406.out (by decide)) hk_ (fun _ h => h.2)) (fun _ h => h.1)); replace HO404 := Ext.a (Kd.R_mono (Kd.R_keep (Kd.R_types HO404.out BK406.out (by decide)) hk_ (fun _ h => h.2)) (fun _ h => h.1)); replace BK406 := Ext.a (hx_); replace HB := Ext.a (hbl_ _ _ HB.out GE406.out); clear hx_ hk_ hbl_))
         go_ret
         exact ⟨by first | rfl | (simp [errW_none, errW_some] <;> rfl) | (simp [*, errW_none, errW_some] <;> rfl), by exact Ext.s1 GE406.out HB.out⟩
       ·
        rw [if_neg c20] at H; obtain ⟨c20b0, c20b1⟩ := Ext.eF c20; obtain rfl := Option.some.inj H; obtain ⟨Ao75, co75, eo75⟩ := Kd.R_slice HO_7.out; subst eo75
        go_wp2_with (first | ((with_reducible refine gate_callee (f := 22) rfl ?_); refine Ext.gs (some 48) rfl rfl Try.func22 #[.slice Ao75 t386.length co75] rfl ?_; (with_reducible refine (page_Decode.calls kj12 _ _ t386 t390 t391 t392 t393 t396 t399 t402 t405 _ ?side1 ?side2 A19.out).mono ?_); (case side1 => exact Ext.nC (Kd.R_reads' HO_7.out).2.2); (case side2 => exact (Kd.R_reads' HO_7.out).2.1); rintro e w76 ⟨v394, v397, v400, v403, rfl, ho0, ho1, ho2, ho3, hb⟩; refine ⟨_, rfl, ?_⟩; have HO395 := Ext.a (Kd.S_lower (Kd.S_new' ho0 (Kd.R_lt (Ext.nR HO_7.out))) (below_size (Ext.nB HB.out))); have HO398 := Ext.a (Kd.S_lower (Kd.S_new' ho1 (Kd.R_lt (Ext.nR HO_7.out))) (below_size (Ext.nB HB.out))); have HO401 := Ext.a (Kd.R_lower (Kd.R_new' ho2 (Kd.R_lt (Ext.nR HO_7.out))) (below_size (Ext.nB HB.out))); replace HO_7 := Ext.a (Kd.R_elder' (Ext.nR HO_7.out) (Kd.R_base ho2) hb); have HO404 := Ext.a (Kd.R_lower ho3 (below_size (Ext.nB HB.out))); replace HB := Ext.a (below_step (Ext.nB HB.out) hb); (try clear hb ho0 ho1 ho2 ho3)) | ((with_reducible refine gate_dst (N := 9) rfl ?_); (try (refine gate_guard (by rfl) ?_; dsimp only)); refine Ext.alloc_event (hgd := ?hg) (N := 9) (_hd := ?hd) (t := 28) (ho := ?ho) info28 ?_; (case ho => rfl); (case hd => rfl); (case hg => rfl); intro gb406 hg w77 hbox hb; replace HO_7 := Ext.a (Kd.R_below (Ext.nR HO_7.out) hb); replace HO395 := Ext.a (Kd.S_below (Ext.nS HO395.out) hb); replace HO398 := Ext.a (Kd.S_below (Ext.nS HO398.out) hb); replace HO401 := Ext.a (Kd.R_below (Ext.nR HO401.out) hb); replace HO404 := Ext.a (Kd.R_below (Ext.nR HO404.out) hb); have BK406 := Ext.a (hbox); have GW406 := Ext.gw hg (below_size (Ext.nB HB.out)); have GE406 := Ext.gw hg (below_size (Ext.nB HB.out)); replace HB := Ext.a (below_step (Ext.nB HB.out) hb); clear hb hbox hg; have hcz78 := Ext.cells7 BK406.out; have hfz78 := Ext.froz7 BK406.out; obtain ⟨Ao79, co79, eo79⟩ := Kd.S_slice HO395.out; subst eo79; obtain ⟨Ao80, co80, eo80⟩ := Kd.S_slice HO398.out; subst eo80; obtain ⟨Ao81, co81, eo81⟩ := Kd.R_slice HO401.out; subst eo81; obtain ⟨Ao82, co82, eo82⟩ := Kd.R_slice HO404.out; subst eo82) | ((with_reducible refine gate_store (t := 28) (p := 9) rfl ?_); refine Ext.struct_store (hgd := ?hg) (hN := ?hn) (t := 28) (p := .tmp 9) (x := ?vo_w83) (ho := ?ho) (cells := #[.int .i64 t390, .int .u64 t391, .int .i64 t392, .slice Ao79 t393.length co79, .slice Ao80 t396.length co80, .slice Ao81 t399.length co81, .slice Ao82 t402.length co82]) (haddr := ?ha) (hx := ?hx) BK406.out rfl (by kernel_rfl) rfl ?_; (case ho => rfl); (case hg => rfl); (case hn => rfl); (case ha => rfl); (case hx => first | rfl | (go_simp; done)); intro w83 hx_ hk_ hbl_; replace HO_7 := Ext.a (Kd.R_mono (Kd.R_keep (Kd.R_types HO_7.out BK406.out (by decide)) hk_ (fun _ h => h.2)) (fun _ h => h.1)); replace HO395 := Ext.a (Kd.S_mono (Kd.S_keep (Kd.S_types HO395.out BK406.out (by decide)) hk_ (fun _ h => h.2)) (fun _ h => h.1)); replace HO398 := Ext.a (Kd.S_mono (Kd.S_keep (Kd.S_types HO398.out BK406.out (by decide)) hk_ (fun _ h => h.2)) (fun _ h => h.1)); replace HO401 := Ext.a (Kd.R_mono (Kd.R_keep (Kd.R_types HO401.out BK406.out (by decide)) hk_ (fun _ h => h.2)) (fun _ h => h.1)); replace HO404 := Ext.a (Kd.R_mono (Kd.R_keep (Kd.R_types HO404.out BK406.out (by decide)) hk_ (fun _ h => h.2)) (fun _ h => h.1)); replace BK406 := Ext.a (hx_); replace HB := Ext.a (hbl_ _ _ HB.out GE406.out); clear hx_ hk_ hbl_))
        go_ret
        exact ⟨by first | rfl | (simp [errW_none, errW_some] <;> rfl) | (simp [*, errW_none, errW_some] <;> rfl), by exact Ext.s1 GE406.out HB.out⟩

/-- THE ONE PURE STATEMENT of terrierlaw04_PagePieces: yours. -/
def terrierlaw04_PagePieces.Pure : Prop := ∀ (l0 : List Int) (a1 : Int) (a2 : Int), l0.length ≤ maxLen → l0.length * 1 ≤ 140737488351232 → (∀ x ∈ l0, (Lit.int .u8 x).wf = true) → (Lit.int .u64 a1).wf = true → (Lit.int .i64 a2).wf = true → ∃ k, terrierlaw04_PagePieces.f k l0 a1 a2 = some true
theorem terrierlaw04_PagePieces.walk (P : terrierlaw04_PagePieces.Pure) (a0 : Option Addr) (len0 cap0 : Nat) (z0 : List Int) (a1 : Int) (a2 : Int) (w : World) (w0 : (a0 = none ∧ len0 = 0 ∧ cap0 = 0 ∧ z0 = []) ∨ ∃ x, a0 = some x ∧ len0 ≤ cap0 ∧ cap0 ≤ maxLen ∧ z0.length = cap0 ∧ (∀ i, i < z0.length → w.cell? (x.add i) = some (.int .u8 (z0.getD i 0))) ∧ ∀ n ∈ z0, (Lit.int .u8 n).wf = true) (y0 : len0 * 1 ≤ 140737488351232) (w1 : (Lit.int .u64 a1).wf = true) (w2 : (Lit.int .i64 a2).wf = true) :
  Calls Try.prog 8 #[.slice a0 len0 cap0, .int .u64 a1, .int .i64 a2] w fun e w' => e = .returned (.bool true) ∧ Below w.heap.size w w' := by
 obtain ⟨l0, rfl, hr0, hm0, hw0, hc0⟩ := ReadsInt.ofRowC w0; obtain ⟨k, h⟩ := P l0 a1 a2 hm0 y0 hw0 w1 w2; refine (terrierlaw04_PagePieces.calls k _ _ l0 a1 a2 true w (Kd.C_of_reads (d := (0 : Int)) (h1 := fun _ => rfl) hr0) hc0 h).mono ?_; rintro e w' ⟨rfl, hd⟩
 exact ⟨rfl, hd⟩

end Go.Proofs.Ytandeendeoempaa.PM
