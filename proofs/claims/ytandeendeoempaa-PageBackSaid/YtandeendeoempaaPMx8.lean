-- Written by wip/printx.py, a program of this work over the kit's print, for this claim.
import Derived.Test.YtandeendeoempaaPMx0
import Derived.Test.YtandeendeoempaaPMx7
namespace Go.Proofs.Ytandeendeoempaa.PM
open Go.RowKit Go.Proofs.YtandeendeoempaaW.PrintWords Go.Proofs.YtandeendeoempaaW.PrintLast Go.Proofs.YtandeendeoempaaW.PrintMore
attribute [local go_sem] max2_int min2_int max_two min_two max_three min_three max_four min_four   -- for this text's walks alone
attribute [local go_sem] Ext.pick_u8 Ext.pick_u32 Ext.pick_u64
set_option linter.unusedVariables false
set_option linter.unusedSimpArgs false



/-! ### terrierlaw04_lives: function 9 -/
def terrierlaw04_lives.f (k : Nat)  : Option (Bool) := (page_Encode.f k 1 0 0 (([(⟨(([97] : List Int)), (([120] : List Int)), 1, 0⟩ : S44)] : List (S44))) ([] : List (S60)) ([] : List Int) ([] : List Int)).bind fun bt222 => (if bt222.2 = 0 then (if (bt222.1.length : Int) = 256 then (if 19 ≤ 24 then (if 24 ≤ (bt222.1.length : Int) then (some ((strOfNums ((bt222.1.take 24).drop 19)).toList == ([1, 0, 1, 97, 120] : List UInt8))) else (none)) else (none)) else (some false)) else (some false))
theorem terrierlaw04_lives.mono : ∀ k, LeO (terrierlaw04_lives.f k ) (terrierlaw04_lives.f (k + 1) ) := by
 intro  k
 unfold terrierlaw04_lives.f
 repeat' first
   | (with_reducible exact page_Encode.mono _ _ _ _ _ _ _ _)
   | (with_reducible exact LeO.refl _)
   | (with_reducible exact LeO.none _)
   | (with_reducible refine LeO.ite ?_ ?_)
   | (with_reducible refine LeO.bind ?_ (fun _ => ?_))
   | exact page_Encode.mono _ _ _ _ _ _ _ _
   | exact LeO.none _
   | refine LeO.ite ?_ ?_
   | refine LeO.bind ?_ (fun _ => ?_)
set_option maxHeartbeats 8000000 in
set_option maxRecDepth 100000 in
theorem terrierlaw04_lives.calls (k : Nat)  (r : Bool) (w : World) (h : terrierlaw04_lives.f k  = some r) :
  Calls Try.prog 9 #[] w fun e w' => e = .returned (.bool r) ∧ Below w.heap.size w w' := by
 have hu44 := Try.underlying44; have hu28 := Try.underlying28; have HB := Ext.a (Below.refl w.heap.size w); have H := h; unfold terrierlaw04_lives.f at H; clear h; obtain ⟨y213, hy213⟩ : ∃ y_ : List Int, y_ = (([97] : List Int)) := ⟨_, rfl⟩
 replace H : ((page_Encode.f k 1 0 0 (([(⟨y213, (([120] : List Int)), 1, 0⟩ : S44)] : List (S44))) ([] : List (S60)) ([] : List Int) ([] : List Int)).bind fun bt222 => (if bt222.2 = 0 then (if (bt222.1.length : Int) = 256 then (if 19 ≤ 24 then (if 24 ≤ (bt222.1.length : Int) then (some ((strOfNums ((bt222.1.take 24).drop 19)).toList == ([1, 0, 1, 97, 120] : List UInt8))) else (none)) else (none)) else (some false)) else (some false))) = some r := by first | (rw [hy213]; with_reducible exact H) | (have H2_ := (Option.bind_some _ _).symm.trans H; rw [hy213]; with_reducible exact H2_) | (have H2_ := (Option.bind_some _ _).symm.trans H; with_reducible exact H2_) | with_reducible exact H | (rw [hy213]; exact H) | exact H
 have Ny213 := Aside0.mk hy213; clear hy213; obtain ⟨y216, hy216⟩ : ∃ y_ : List Int, y_ = (([120] : List Int)) := ⟨_, rfl⟩
 replace H : ((page_Encode.f k 1 0 0 (([(⟨y213, y216, 1, 0⟩ : S44)] : List (S44))) ([] : List (S60)) ([] : List Int) ([] : List Int)).bind fun bt222 => (if bt222.2 = 0 then (if (bt222.1.length : Int) = 256 then (if 19 ≤ 24 then (if 24 ≤ (bt222.1.length : Int) then (some ((strOfNums ((bt222.1.take 24).drop 19)).toList == ([1, 0, 1, 97, 120] : List UInt8))) else (none)) else (none)) else (some false)) else (some false))) = some r := by first | (rw [hy216]; with_reducible exact H) | (have H2_ := (Option.bind_some _ _).symm.trans H; rw [hy216]; with_reducible exact H2_) | (have H2_ := (Option.bind_some _ _).symm.trans H; with_reducible exact H2_) | with_reducible exact H | (rw [hy216]; exact H) | exact H
 have Ny216 := Aside0.mk hy216; clear hy216; obtain ⟨y219, hy219⟩ : ∃ y_ : List (S44), y_ = (([(⟨y213, y216, 1, 0⟩ : S44)] : List (S44))) := ⟨_, rfl⟩
 replace H : ((page_Encode.f k 1 0 0 y219 ([] : List (S60)) ([] : List Int) ([] : List Int)).bind fun bt222 => (if bt222.2 = 0 then (if (bt222.1.length : Int) = 256 then (if 19 ≤ 24 then (if 24 ≤ (bt222.1.length : Int) then (some ((strOfNums ((bt222.1.take 24).drop 19)).toList == ([1, 0, 1, 97, 120] : List UInt8))) else (none)) else (none)) else (some false)) else (some false))) = some r := by first | (rw [hy219]; with_reducible exact H) | (have H2_ := (Option.bind_some _ _).symm.trans H; rw [hy219]; with_reducible exact H2_) | (have H2_ := (Option.bind_some _ _).symm.trans H; with_reducible exact H2_) | with_reducible exact H | (rw [hy219]; exact H) | exact H
 have Ny219 := Aside0.mk hy219; clear hy219; replace H := Option.bind_eq_some_iff.mp H; obtain ⟨⟨t222, t225⟩, A10, H⟩ := H; (try dsimp only at H); have A1 := Aside0.mk A10; clear A10
 by_cases c2 : t225 = 0
 ·
  rw [if_pos c2] at H; obtain ⟨c2b0, c2b1⟩ := Ext.eT c2; clear c2
  by_cases c3 : (t222.length : Int) = 256
  ·
   rw [if_pos c3] at H; obtain ⟨c3b0, c3b1⟩ := Ext.eT c3; clear c3
   by_cases c4 : 19 ≤ 24
   ·
    rw [if_pos c4] at H; have c4b0 := eq_true c4; have c4b1 := decide_eq_true c4; clear c4
    by_cases c5 : 24 ≤ (t222.length : Int)
    ·
     rw [if_pos c5] at H; have c5b0 := eq_true c5; have c5b1 := decide_eq_true c5; clear c5; obtain ⟨y226, hy226⟩ : ∃ y_ : List Int, y_ = ((t222.take 24).drop 19) := ⟨_, rfl⟩
     replace H : (some ((strOfNums y226).toList == ([1, 0, 1, 97, 120] : List UInt8))) = some r := by first | (rw [hy226]; with_reducible exact H) | (have H2_ := (Option.bind_some _ _).symm.trans H; rw [hy226]; with_reducible exact H2_) | (have H2_ := (Option.bind_some _ _).symm.trans H; with_reducible exact H2_) | with_reducible exact H | (rw [hy226]; exact H) | exact H
     have Ny226 := Aside0.mk hy226; clear hy226; obtain rfl := Option.some.inj H
     go_enter Try.func9, Try.ntmps9
     go_wp2_with (first | ((with_reducible refine gate_dst (N := 4) rfl ?_); (try (refine gate_guard (by rfl) ?_; dsimp only)); refine Ext.V_lit 25 _ 5 Try.underlying25 Try.underlying5 ?hg (N := 4) ?hd ?hg2 ?ho2 (xs := ([97] : List Int)) (inner := [.int .u8 97]) (ok := fun k_ => w.heap.size ≤ k_) (okp := fun _ => False) ?hr ?hp (fun _ hk => hk.elim) (Nat.le_refl _) (Below.refl _ _) (Nat.le_refl _) (by simp) (by simp) ?_; (case hd => rfl); (case hg2 => exact fun _ => by first | rfl | (go_simp; done)); (case ho2 => exact ⟨_, rfl, fun _ => by first | rfl | (go_simp; done) | (go_simp; rfl)⟩); (case hg => rfl); (case hr => first | (go_simp; done) | (go_simp; rfl)); (case hp => exact (Reps.one (show Kd.M (Kd.int .u8) _ _ _ 97 [.int .u8 97] from rfl) (Reps.none _ _))); intro v214 w6 ho7 hb hg_ hnew_; clear hg_ hnew_; (first | rw [← Ny213.out] at ho7 | (simp only [Int.reduceToNat] at ho7; rw [← Ny213.out] at ho7)); have HO215 := Ext.a (Kd.V_lower (Kd.V_mono (ok' := fun k_ => True) ho7 (fun k_ hk_ => trivial)) (below_size (Ext.nB HB.out))); replace HB := Ext.a (below_step (Ext.nB HB.out) hb); clear hb ho7) | ((with_reducible refine gate_dst (N := 6) rfl ?_); (try (refine gate_guard (by rfl) ?_; dsimp only)); refine Ext.V_lit 25 _ 5 Try.underlying25 Try.underlying5 ?hg (N := 6) ?hd ?hg2 ?ho2 (xs := ([120] : List Int)) (inner := [.int .u8 120]) (ok := fun k_ => w6.heap.size ≤ k_) (okp := fun _ => False) ?hr ?hp (fun _ hk => hk.elim) (Nat.le_refl _) (Below.refl _ _) (Nat.le_refl _) (by simp) (by simp) ?_; (case hd => rfl); (case hg2 => exact fun _ => by first | rfl | (go_simp; done)); (case ho2 => exact ⟨_, rfl, fun _ => by first | rfl | (go_simp; done) | (go_simp; rfl)⟩); (case hg => rfl); (case hr => first | (go_simp; done) | (go_simp; rfl)); (case hp => exact (Reps.one (show Kd.M (Kd.int .u8) _ _ _ 120 [.int .u8 120] from rfl) (Reps.none _ _))); intro v217 w8 ho9 hb hg_ hnew_; clear hg_ hnew_; (first | rw [← Ny216.out] at ho9 | (simp only [Int.reduceToNat] at ho9; rw [← Ny216.out] at ho9)); replace HO215 := Ext.a (Kd.V_below (Ext.nV HO215.out) hb); have HO218 := Ext.a (Kd.V_lower (Kd.V_mono (ok' := fun k_ => True) ho9 (fun k_ hk_ => trivial)) (below_size (Ext.nB HB.out))); replace HB := Ext.a (below_step (Ext.nB HB.out) hb); clear hb ho9; obtain ⟨Ao10, co10, eo10⟩ := Kd.V_slice HO218.out; subst eo10; obtain ⟨Ao11, co11, eo11⟩ := Kd.V_slice HO215.out; subst eo11) | ((with_reducible refine gate_dst (N := 9) rfl ?_); (try (refine gate_guard (by rfl) ?_; dsimp only)); refine Kd.N_lit k44 _ 44 ?hg (N' := 9) ?hd (xs := ([(⟨y213, y216, 1, 0⟩ : S44)] : List (S44))) (inner := [.slice Ao11 y213.length co11, .slice Ao10 y216.length co10, .int .i64 1, .int .i64 0]) (ok := (fun _ => True)) (okp := (fun _ => True)) ?hr ?hp (fun _ hk => hk) ((show ∀ k_, w8.heap.size ≤ k_ → (fun _ => True) k_ from fun k_ hk => trivial) _ (Nat.le_refl _)) (Below.refl _ _) (Nat.le_refl _) (by simp) ?_; (case hd => rfl); (case hg => rfl); (case hr => first | (go_simp; done) | (go_simp; rfl)); (case hp => exact (Reps.c4 (show Kd.FK k44 _ _ (⟨y213, y216, 1, 0⟩ : S44) [.slice Ao11 y213.length co11, .slice Ao10 y216.length co10, .int .i64 1, .int .i64 0] from (k44_mkF _ _ (⟨y213, y216, 1, 0⟩ : S44) (Kd.V_reads' (Kd.V_mono (e := 0) (base := 0) (ok' := (fun _ => True)) (HO215.out) (fun k_ hk => trivial))).2.1 (Kd.V_F (e := 0) (base := 0) (Kd.V_mono (e := 0) (base := 0) (ok' := (fun _ => True)) (HO215.out) (fun k_ hk => trivial))) (Kd.V_reads' (Kd.V_mono (e := 0) (base := 0) (ok' := (fun _ => True)) (HO218.out) (fun k_ hk => trivial))).2.1 (Kd.V_F (e := 0) (base := 0) (Kd.V_mono (e := 0) (base := 0) (ok' := (fun _ => True)) (HO218.out) (fun k_ hk => trivial))))) (Reps.none _ _))); intro v220 w12 ho13 hb hg_ hnew_; clear hg_ hnew_; (first | rw [← Ny219.out] at ho13 | (simp only [Int.reduceToNat] at ho13; rw [← Ny219.out] at ho13)); replace HO215 := Ext.a (Kd.V_elder' (Ext.nV HO215.out) (Kd.N_base ho13) hb); replace HO218 := Ext.a (Kd.V_elder' (Ext.nV HO218.out) (Kd.N_base ho13) hb); have HO221 := Ext.a (Kd.N_lower ho13 (below_size (Ext.nB HB.out))); replace HB := Ext.a (below_step (Ext.nB HB.out) hb); clear hb ho13; obtain ⟨Ao14, co14, eo14⟩ := Kd.N_slice HO221.out; subst eo14) | ((with_reducible refine gate_callee (f := 12) rfl ?_); refine Ext.gs (some 11) rfl rfl Try.func12 #[.agg #[.int .i64 1, .int .u64 0, .int .i64 0, .slice Ao14 y219.length co14, .slice none 0 0, .slice none 0 0, .slice none 0 0]] rfl ?_; (refine (page_Encode.calls k 1 0 0 _ _ y219 _ _ ([] : List (S60)) _ _ ([] : List Int) _ _ ([] : List Int) t222 t225 _ ?side1 ?side2 ?side3 ?side4 ?side5 ?side6 ?side7 ?side8 A1.out).mono ?_); (case side1 => exact Ext.nC (Kd.N_reads' HO221.out).2.2); (case side2 => exact (Kd.N_reads' HO221.out).2.1); (case side3 => exact Kd.C_nil _ _); (case side4 => exact Nat.le_refl _); (case side5 => exact Kd.C_nil _ _); (case side6 => exact Nat.le_refl _); (case side7 => exact Kd.C_nil _ _); (case side8 => exact Nat.le_refl _); rintro e w15 ⟨v223, rfl, ho0, hb⟩; refine ⟨_, rfl, ?_⟩; replace HO215 := Ext.a (Kd.V_elder' (Ext.nV HO215.out) (Kd.R_base ho0) hb); replace HO218 := Ext.a (Kd.V_elder' (Ext.nV HO218.out) (Kd.R_base ho0) hb); replace HO221 := Ext.a (Kd.N_elder' (Ext.nN HO221.out) (Kd.R_base ho0) hb); have HO224 := Ext.a (Kd.R_lower ho0 (below_size (Ext.nB HB.out))); replace HB := Ext.a (below_step (Ext.nB HB.out) hb); (try clear hb ho0); obtain ⟨Ao16, co16, eo16⟩ := Kd.R_slice HO224.out; subst eo16; have q17 : (24 : Int) ≤ ((t222.length : Int) : Int) := of_decide_eq_true (by first | (with_reducible assumption) | assumption); obtain ⟨i017, hi017, _, hsz17, _⟩ := info_parts info5; have hroom17 : t222.length ≤ co16 := (Kd.R_reads' HO224.out).2.1; have hC17 : Kd.F (Kd.int .u8) _ _ Ao16 t222.length t222 := (Kd.V_at (base := w.heap.size) (Kd.R_V (Kd.R_apart' (HO224.out) (Kd.N_typed HO221.out) (by decide)))).2.2; have ql17 : (19 : Int) ≤ (24 : Int) := (by omega); have hcut17 := cut_mid (P := Try.prog) 25 5 .i64 .i64 Try.underlying25 hi017 1 hsz17 Ao16 t222.length co16 19 24 (by omega) ql17 q17 hroom17; have hr17 := Kd.F_mid (lo := (19 : Int).toNat) (hi := (24 : Int).toNat) (c := co16) hC17 (by omega) (by omega) hroom17; obtain ⟨A17, hA17⟩ : ∃ A1, A1 = (if co16 = (19 : Int).toNat then Ao16 else (Ao16 : Option Addr).map (·.add ((19 : Int).toNat * 1))) := ⟨_, rfl⟩; obtain ⟨c17, hc17⟩ : ∃ c1, c1 = co16 - (19 : Int).toNat := ⟨_, rfl⟩; have hy17 : y226.length = (24 : Int).toNat - (19 : Int).toNat := (by rw [Ny226.out, List.length_drop, List.length_take] <;> omega); rw [show ((t222).take (24 : Int).toNat).drop (19 : Int).toNat = y226 from Ny226.out.symm] at hr17; replace hr17 : Kd.F (Kd.int .u8) _ _ A17 y226.length y226 := (by rw [hA17]; exact hr17); rw [← hy17, ← hA17, ← hc17] at hcut17; have HO230 := Ext.a (show Kd.V (Kd.int .u8) 5 _ w.heap.size _ (.slice A17 y226.length c17) y226 from Kd.V_mk (by rw [hy17, hc17]; exact Nat.sub_le_sub_right (Nat.le_trans (by omega) hroom17) _) hr17); have HC230 := Ext.a (show y226.length ≤ c17 from by rw [hy17, hc17]; exact Nat.sub_le_sub_right (Nat.le_trans (by omega) hroom17) _); clear hr17 hC17 hroom17 hi017 hsz17 hc17; have KY17 := Aside0.mk hy17; have KA17 := Aside0.mk hA17; clear hy17 hA17; replace q17 := eq_true q17; have hcv18 := Kd.C_string (P := Try.prog) (c := c17) Try.underlying25 Try.underlying5 Try.underlying9 (Kd.V_reads' HO230.out).2.2))
     go_ret
     exact ⟨by first | rfl | (simp [errW_none, errW_some] <;> rfl) | (simp [*, errW_none, errW_some] <;> rfl), by exact Ext.nB HB.out⟩
    · rw [if_neg c5] at H; exact absurd H (by simp)
   · rw [if_neg c4] at H; exact absurd H (by simp)
  ·
   rw [if_neg c3] at H; obtain ⟨c3b0, c3b1⟩ := Ext.eF c3; obtain rfl := Option.some.inj H
   go_enter Try.func9, Try.ntmps9
   go_wp2_with (first | ((with_reducible refine gate_dst (N := 4) rfl ?_); (try (refine gate_guard (by rfl) ?_; dsimp only)); refine Ext.V_lit 25 _ 5 Try.underlying25 Try.underlying5 ?hg (N := 4) ?hd ?hg2 ?ho2 (xs := ([97] : List Int)) (inner := [.int .u8 97]) (ok := fun k_ => w.heap.size ≤ k_) (okp := fun _ => False) ?hr ?hp (fun _ hk => hk.elim) (Nat.le_refl _) (Below.refl _ _) (Nat.le_refl _) (by simp) (by simp) ?_; (case hd => rfl); (case hg2 => exact fun _ => by first | rfl | (go_simp; done)); (case ho2 => exact ⟨_, rfl, fun _ => by first | rfl | (go_simp; done) | (go_simp; rfl)⟩); (case hg => rfl); (case hr => first | (go_simp; done) | (go_simp; rfl)); (case hp => exact (Reps.one (show Kd.M (Kd.int .u8) _ _ _ 97 [.int .u8 97] from rfl) (Reps.none _ _))); intro v214 w19 ho20 hb hg_ hnew_; clear hg_ hnew_; (first | rw [← Ny213.out] at ho20 | (simp only [Int.reduceToNat] at ho20; rw [← Ny213.out] at ho20)); have HO215 := Ext.a (Kd.V_lower (Kd.V_mono (ok' := fun k_ => True) ho20 (fun k_ hk_ => trivial)) (below_size (Ext.nB HB.out))); replace HB := Ext.a (below_step (Ext.nB HB.out) hb); clear hb ho20) | ((with_reducible refine gate_dst (N := 6) rfl ?_); (try (refine gate_guard (by rfl) ?_; dsimp only)); refine Ext.V_lit 25 _ 5 Try.underlying25 Try.underlying5 ?hg (N := 6) ?hd ?hg2 ?ho2 (xs := ([120] : List Int)) (inner := [.int .u8 120]) (ok := fun k_ => w19.heap.size ≤ k_) (okp := fun _ => False) ?hr ?hp (fun _ hk => hk.elim) (Nat.le_refl _) (Below.refl _ _) (Nat.le_refl _) (by simp) (by simp) ?_; (case hd => rfl); (case hg2 => exact fun _ => by first | rfl | (go_simp; done)); (case ho2 => exact ⟨_, rfl, fun _ => by first | rfl | (go_simp; done) | (go_simp; rfl)⟩); (case hg => rfl); (case hr => first | (go_simp; done) | (go_simp; rfl)); (case hp => exact (Reps.one (show Kd.M (Kd.int .u8) _ _ _ 120 [.int .u8 120] from rfl) (Reps.none _ _))); intro v217 w21 ho22 hb hg_ hnew_; clear hg_ hnew_; (first | rw [← Ny216.out] at ho22 | (simp only [Int.reduceToNat] at ho22; rw [← Ny216.out] at ho22)); replace HO215 := Ext.a (Kd.V_below (Ext.nV HO215.out) hb); have HO218 := Ext.a (Kd.V_lower (Kd.V_mono (ok' := fun k_ => True) ho22 (fun k_ hk_ => trivial)) (below_size (Ext.nB HB.out))); replace HB := Ext.a (below_step (Ext.nB HB.out) hb); clear hb ho22; obtain ⟨Ao23, co23, eo23⟩ := Kd.V_slice HO218.out; subst eo23; obtain ⟨Ao24, co24, eo24⟩ := Kd.V_slice HO215.out; subst eo24) | ((with_reducible refine gate_dst (N := 9) rfl ?_); (try (refine gate_guard (by rfl) ?_; dsimp only)); refine Kd.N_lit k44 _ 44 ?hg (N' := 9) ?hd (xs := ([(⟨y213, y216, 1, 0⟩ : S44)] : List (S44))) (inner := [.slice Ao24 y213.length co24, .slice Ao23 y216.length co23, .int .i64 1, .int .i64 0]) (ok := (fun _ => True)) (okp := (fun _ => True)) ?hr ?hp (fun _ hk => hk) ((show ∀ k_, w21.heap.size ≤ k_ → (fun _ => True) k_ from fun k_ hk => trivial) _ (Nat.le_refl _)) (Below.refl _ _) (Nat.le_refl _) (by simp) ?_; (case hd => rfl); (case hg => rfl); (case hr => first | (go_simp; done) | (go_simp; rfl)); (case hp => exact (Reps.c4 (show Kd.FK k44 _ _ (⟨y213, y216, 1, 0⟩ : S44) [.slice Ao24 y213.length co24, .slice Ao23 y216.length co23, .int .i64 1, .int .i64 0] from (k44_mkF _ _ (⟨y213, y216, 1, 0⟩ : S44) (Kd.V_reads' (Kd.V_mono (e := 0) (base := 0) (ok' := (fun _ => True)) (HO215.out) (fun k_ hk => trivial))).2.1 (Kd.V_F (e := 0) (base := 0) (Kd.V_mono (e := 0) (base := 0) (ok' := (fun _ => True)) (HO215.out) (fun k_ hk => trivial))) (Kd.V_reads' (Kd.V_mono (e := 0) (base := 0) (ok' := (fun _ => True)) (HO218.out) (fun k_ hk => trivial))).2.1 (Kd.V_F (e := 0) (base := 0) (Kd.V_mono (e := 0) (base := 0) (ok' := (fun _ => True)) (HO218.out) (fun k_ hk => trivial))))) (Reps.none _ _))); intro v220 w25 ho26 hb hg_ hnew_; clear hg_ hnew_; (first | rw [← Ny219.out] at ho26 | (simp only [Int.reduceToNat] at ho26; rw [← Ny219.out] at ho26)); replace HO215 := Ext.a (Kd.V_elder' (Ext.nV HO215.out) (Kd.N_base ho26) hb); replace HO218 := Ext.a (Kd.V_elder' (Ext.nV HO218.out) (Kd.N_base ho26) hb); have HO221 := Ext.a (Kd.N_lower ho26 (below_size (Ext.nB HB.out))); replace HB := Ext.a (below_step (Ext.nB HB.out) hb); clear hb ho26; obtain ⟨Ao27, co27, eo27⟩ := Kd.N_slice HO221.out; subst eo27) | ((with_reducible refine gate_callee (f := 12) rfl ?_); refine Ext.gs (some 11) rfl rfl Try.func12 #[.agg #[.int .i64 1, .int .u64 0, .int .i64 0, .slice Ao27 y219.length co27, .slice none 0 0, .slice none 0 0, .slice none 0 0]] rfl ?_; (refine (page_Encode.calls k 1 0 0 _ _ y219 _ _ ([] : List (S60)) _ _ ([] : List Int) _ _ ([] : List Int) t222 t225 _ ?side1 ?side2 ?side3 ?side4 ?side5 ?side6 ?side7 ?side8 A1.out).mono ?_); (case side1 => exact Ext.nC (Kd.N_reads' HO221.out).2.2); (case side2 => exact (Kd.N_reads' HO221.out).2.1); (case side3 => exact Kd.C_nil _ _); (case side4 => exact Nat.le_refl _); (case side5 => exact Kd.C_nil _ _); (case side6 => exact Nat.le_refl _); (case side7 => exact Kd.C_nil _ _); (case side8 => exact Nat.le_refl _); rintro e w28 ⟨v223, rfl, ho0, hb⟩; refine ⟨_, rfl, ?_⟩; replace HO215 := Ext.a (Kd.V_elder' (Ext.nV HO215.out) (Kd.R_base ho0) hb); replace HO218 := Ext.a (Kd.V_elder' (Ext.nV HO218.out) (Kd.R_base ho0) hb); replace HO221 := Ext.a (Kd.N_elder' (Ext.nN HO221.out) (Kd.R_base ho0) hb); have HO224 := Ext.a (Kd.R_lower ho0 (below_size (Ext.nB HB.out))); replace HB := Ext.a (below_step (Ext.nB HB.out) hb); (try clear hb ho0); obtain ⟨Ao29, co29, eo29⟩ := Kd.R_slice HO224.out; subst eo29))
   go_ret
   exact ⟨by first | rfl | (simp [errW_none, errW_some] <;> rfl) | (simp [*, errW_none, errW_some] <;> rfl), by exact Ext.nB HB.out⟩
 ·
  rw [if_neg c2] at H; obtain ⟨c2b0, c2b1⟩ := Ext.eF c2; obtain rfl := Option.some.inj H
  go_enter Try.func9, Try.ntmps9
  go_wp2_with (first | ((with_reducible refine gate_dst (N := 4) rfl ?_); (try (refine gate_guard (by rfl) ?_; dsimp only)); refine Ext.V_lit 25 _ 5 Try.underlying25 Try.underlying5 ?hg (N := 4) ?hd ?hg2 ?ho2 (xs := ([97] : List Int)) (inner := [.int .u8 97]) (ok := fun k_ => w.heap.size ≤ k_) (okp := fun _ => False) ?hr ?hp (fun _ hk => hk.elim) (Nat.le_refl _) (Below.refl _ _) (Nat.le_refl _) (by simp) (by simp) ?_; (case hd => rfl); (case hg2 => exact fun _ => by first | rfl | (go_simp; done)); (case ho2 => exact ⟨_, rfl, fun _ => by first | rfl | (go_simp; done) | (go_simp; rfl)⟩); (case hg => rfl); (case hr => first | (go_simp; done) | (go_simp; rfl)); (case hp => exact (Reps.one (show Kd.M (Kd.int .u8) _ _ _ 97 [.int .u8 97] from rfl) (Reps.none _ _))); intro v214 w30 ho31 hb hg_ hnew_; clear hg_ hnew_; (first | rw [← Ny213.out] at ho31 | (simp only [Int.reduceToNat] at ho31; rw [← Ny213.out] at ho31)); have HO215 := Ext.a (Kd.V_lower (Kd.V_mono (ok' := fun k_ => True) ho31 (fun k_ hk_ => trivial)) (below_size (Ext.nB HB.out))); replace HB := Ext.a (below_step (Ext.nB HB.out) hb); clear hb ho31) | ((with_reducible refine gate_dst (N := 6) rfl ?_); (try (refine gate_guard (by rfl) ?_; dsimp only)); refine Ext.V_lit 25 _ 5 Try.underlying25 Try.underlying5 ?hg (N := 6) ?hd ?hg2 ?ho2 (xs := ([120] : List Int)) (inner := [.int .u8 120]) (ok := fun k_ => w30.heap.size ≤ k_) (okp := fun _ => False) ?hr ?hp (fun _ hk => hk.elim) (Nat.le_refl _) (Below.refl _ _) (Nat.le_refl _) (by simp) (by simp) ?_; (case hd => rfl); (case hg2 => exact fun _ => by first | rfl | (go_simp; done)); (case ho2 => exact ⟨_, rfl, fun _ => by first | rfl | (go_simp; done) | (go_simp; rfl)⟩); (case hg => rfl); (case hr => first | (go_simp; done) | (go_simp; rfl)); (case hp => exact (Reps.one (show Kd.M (Kd.int .u8) _ _ _ 120 [.int .u8 120] from rfl) (Reps.none _ _))); intro v217 w32 ho33 hb hg_ hnew_; clear hg_ hnew_; (first | rw [← Ny216.out] at ho33 | (simp only [Int.reduceToNat] at ho33; rw [← Ny216.out] at ho33)); replace HO215 := Ext.a (Kd.V_below (Ext.nV HO215.out) hb); have HO218 := Ext.a (Kd.V_lower (Kd.V_mono (ok' := fun k_ => True) ho33 (fun k_ hk_ => trivial)) (below_size (Ext.nB HB.out))); replace HB := Ext.a (below_step (Ext.nB HB.out) hb); clear hb ho33; obtain ⟨Ao34, co34, eo34⟩ := Kd.V_slice HO218.out; subst eo34; obtain ⟨Ao35, co35, eo35⟩ := Kd.V_slice HO215.out; subst eo35) | ((with_reducible refine gate_dst (N := 9) rfl ?_); (try (refine gate_guard (by rfl) ?_; dsimp only)); refine Kd.N_lit k44 _ 44 ?hg (N' := 9) ?hd (xs := ([(⟨y213, y216, 1, 0⟩ : S44)] : List (S44))) (inner := [.slice Ao35 y213.length co35, .slice Ao34 y216.length co34, .int .i64 1, .int .i64 0]) (ok := (fun _ => True)) (okp := (fun _ => True)) ?hr ?hp (fun _ hk => hk) ((show ∀ k_, w32.heap.size ≤ k_ → (fun _ => True) k_ from fun k_ hk => trivial) _ (Nat.le_refl _)) (Below.refl _ _) (Nat.le_refl _) (by simp) ?_; (case hd => rfl); (case hg => rfl); (case hr => first | (go_simp; done) | (go_simp; rfl)); (case hp => exact (Reps.c4 (show Kd.FK k44 _ _ (⟨y213, y216, 1, 0⟩ : S44) [.slice Ao35 y213.length co35, .slice Ao34 y216.length co34, .int .i64 1, .int .i64 0] from (k44_mkF _ _ (⟨y213, y216, 1, 0⟩ : S44) (Kd.V_reads' (Kd.V_mono (e := 0) (base := 0) (ok' := (fun _ => True)) (HO215.out) (fun k_ hk => trivial))).2.1 (Kd.V_F (e := 0) (base := 0) (Kd.V_mono (e := 0) (base := 0) (ok' := (fun _ => True)) (HO215.out) (fun k_ hk => trivial))) (Kd.V_reads' (Kd.V_mono (e := 0) (base := 0) (ok' := (fun _ => True)) (HO218.out) (fun k_ hk => trivial))).2.1 (Kd.V_F (e := 0) (base := 0) (Kd.V_mono (e := 0) (base := 0) (ok' := (fun _ => True)) (HO218.out) (fun k_ hk => trivial))))) (Reps.none _ _))); intro v220 w36 ho37 hb hg_ hnew_; clear hg_ hnew_; (first | rw [← Ny219.out] at ho37 | (simp only [Int.reduceToNat] at ho37; rw [← Ny219.out] at ho37)); replace HO215 := Ext.a (Kd.V_elder' (Ext.nV HO215.out) (Kd.N_base ho37) hb); replace HO218 := Ext.a (Kd.V_elder' (Ext.nV HO218.out) (Kd.N_base ho37) hb); have HO221 := Ext.a (Kd.N_lower ho37 (below_size (Ext.nB HB.out))); replace HB := Ext.a (below_step (Ext.nB HB.out) hb); clear hb ho37; obtain ⟨Ao38, co38, eo38⟩ := Kd.N_slice HO221.out; subst eo38) | ((with_reducible refine gate_callee (f := 12) rfl ?_); refine Ext.gs (some 11) rfl rfl Try.func12 #[.agg #[.int .i64 1, .int .u64 0, .int .i64 0, .slice Ao38 y219.length co38, .slice none 0 0, .slice none 0 0, .slice none 0 0]] rfl ?_; (refine (page_Encode.calls k 1 0 0 _ _ y219 _ _ ([] : List (S60)) _ _ ([] : List Int) _ _ ([] : List Int) t222 t225 _ ?side1 ?side2 ?side3 ?side4 ?side5 ?side6 ?side7 ?side8 A1.out).mono ?_); (case side1 => exact Ext.nC (Kd.N_reads' HO221.out).2.2); (case side2 => exact (Kd.N_reads' HO221.out).2.1); (case side3 => exact Kd.C_nil _ _); (case side4 => exact Nat.le_refl _); (case side5 => exact Kd.C_nil _ _); (case side6 => exact Nat.le_refl _); (case side7 => exact Kd.C_nil _ _); (case side8 => exact Nat.le_refl _); rintro e w39 ⟨v223, rfl, ho0, hb⟩; refine ⟨_, rfl, ?_⟩; replace HO215 := Ext.a (Kd.V_elder' (Ext.nV HO215.out) (Kd.R_base ho0) hb); replace HO218 := Ext.a (Kd.V_elder' (Ext.nV HO218.out) (Kd.R_base ho0) hb); replace HO221 := Ext.a (Kd.N_elder' (Ext.nN HO221.out) (Kd.R_base ho0) hb); have HO224 := Ext.a (Kd.R_lower ho0 (below_size (Ext.nB HB.out))); replace HB := Ext.a (below_step (Ext.nB HB.out) hb); (try clear hb ho0)))
  go_ret
  exact ⟨by first | rfl | (simp [errW_none, errW_some] <;> rfl) | (simp [*, errW_none, errW_some] <;> rfl), by exact Ext.nB HB.out⟩



/-! ### octets_Get: function 33 -/
mutual
def octets_Get.j0 : Nat → List Int → Int → Int → Bool → Option (Int × Int)
 | 0, _, _, _, _ => none
 | k + 1, x0, x1, x2, x16 => if x16 = true then (some (0, 1)) else (if x1 < 0 then (octets_Get.j1 k x0 x1 x2 true) else (if x1 > (x0.length : Int) then (octets_Get.j1 k x0 x1 x2 true) else (octets_Get.j1 k x0 x1 x2 (decide (x2 > (wrap64 ((x0.length : Int) - x1)))))))
def octets_Get.j1 : Nat → List Int → Int → Int → Bool → Option (Int × Int)
 | 0, _, _, _, _ => none
 | k + 1, x0, x1, x2, x32 => if x32 = true then (some (0, 3)) else (if 0 ≤ x1 then (if x1 ≤ (wrap64 (x1 + x2)) then (if (wrap64 (x1 + x2)) ≤ (x0.length : Int) then ((some ((x0.take ((wrap64 (x1 + x2)) : Int).toNat).drop (x1 : Int).toNat : List Int)).bind fun y231 => (octets_Get.l0 k 0 y231 (y231.length : Int) 0)) else (none)) else (none)) else (none))
def octets_Get.l0 : Nat → Int → List Int → Int → Int → Option (Int × Int)
 | 0, _, _, _, _ => none
 | k + 1, x8, x38, x39, x40 => if x40 < x39 then (if 0 ≤ x40 then (if x40 < (x38.length : Int) then (octets_Get.l0 k (Go.bits .or .u64 (IntKind.u64.wrap (x8 * 256)) (IntKind.u64.wrap (rd x38 x40))) x38 x39 (wrap64 (x40 + 1))) else (none)) else (none)) else (some (x8, 0))
end
def octets_Get.f (k : Nat) (l0 : List Int) (a1 : Int) (a2 : Int) : Option (Int × Int) := if a2 < 1 then (octets_Get.j0 k l0 a1 a2 true) else (octets_Get.j0 k l0 a1 a2 (decide (a2 > 8)))
theorem octets_Get.mono_l : ∀ k, (∀ y0 y1 y2 y3, LeO (octets_Get.j0 k y0 y1 y2 y3) (octets_Get.j0 (k + 1) y0 y1 y2 y3)) ∧ (∀ y0 y1 y2 y3, LeO (octets_Get.j1 k y0 y1 y2 y3) (octets_Get.j1 (k + 1) y0 y1 y2 y3)) ∧ (∀ y0 y1 y2 y3, LeO (octets_Get.l0 k y0 y1 y2 y3) (octets_Get.l0 (k + 1) y0 y1 y2 y3))
 | 0 => ⟨fun _ _ _ _ r h => by simp [octets_Get.j0] at h, fun _ _ _ _ r h => by simp [octets_Get.j1] at h, fun _ _ _ _ r h => by simp [octets_Get.l0] at h⟩
 | k + 1 => by
  obtain ⟨ih0, ih1, ih2⟩ := octets_Get.mono_l k; refine ⟨?_, ?_, ?_⟩
  ·
   intro y0 y1 y2 y3
   unfold octets_Get.j0
   repeat' first
   | (with_reducible exact ih0 _ _ _ _)
   | (with_reducible exact ih1 _ _ _ _)
   | (with_reducible exact ih2 _ _ _ _)
   | (with_reducible exact LeO.refl _)
   | (with_reducible exact LeO.none _)
   | (with_reducible refine LeO.ite ?_ ?_)
   | (with_reducible refine LeO.bind ?_ (fun _ => ?_))
   | exact ih0 _ _ _ _
   | exact ih1 _ _ _ _
   | exact ih2 _ _ _ _
   | exact LeO.none _
   | refine LeO.ite ?_ ?_
   | refine LeO.bind ?_ (fun _ => ?_)
  ·
   intro y0 y1 y2 y3
   unfold octets_Get.j1
   repeat' first
   | (with_reducible exact ih0 _ _ _ _)
   | (with_reducible exact ih1 _ _ _ _)
   | (with_reducible exact ih2 _ _ _ _)
   | (with_reducible exact LeO.refl _)
   | (with_reducible exact LeO.none _)
   | (with_reducible refine LeO.ite ?_ ?_)
   | (with_reducible refine LeO.bind ?_ (fun _ => ?_))
   | exact ih0 _ _ _ _
   | exact ih1 _ _ _ _
   | exact ih2 _ _ _ _
   | exact LeO.none _
   | refine LeO.ite ?_ ?_
   | refine LeO.bind ?_ (fun _ => ?_)
  ·
   intro y0 y1 y2 y3
   unfold octets_Get.l0
   repeat' first
   | (with_reducible exact ih0 _ _ _ _)
   | (with_reducible exact ih1 _ _ _ _)
   | (with_reducible exact ih2 _ _ _ _)
   | (with_reducible exact LeO.refl _)
   | (with_reducible exact LeO.none _)
   | (with_reducible refine LeO.ite ?_ ?_)
   | (with_reducible refine LeO.bind ?_ (fun _ => ?_))
   | exact ih0 _ _ _ _
   | exact ih1 _ _ _ _
   | exact ih2 _ _ _ _
   | exact LeO.none _
   | refine LeO.ite ?_ ?_
   | refine LeO.bind ?_ (fun _ => ?_)
theorem octets_Get.mono : ∀ a0 a1 a2 k, LeO (octets_Get.f k a0 a1 a2) (octets_Get.f (k + 1) a0 a1 a2) := by
 intro a0 a1 a2 k
 obtain ⟨ih0, ih1, ih2⟩ := octets_Get.mono_l k; unfold octets_Get.f
 repeat' first
   | (with_reducible exact ih0 _ _ _ _)
   | (with_reducible exact ih1 _ _ _ _)
   | (with_reducible exact ih2 _ _ _ _)
   | (with_reducible exact LeO.refl _)
   | (with_reducible exact LeO.none _)
   | (with_reducible refine LeO.ite ?_ ?_)
   | (with_reducible refine LeO.bind ?_ (fun _ => ?_))
   | exact ih0 _ _ _ _
   | exact ih1 _ _ _ _
   | exact ih2 _ _ _ _
   | exact LeO.none _
   | refine LeO.ite ?_ ?_
   | refine LeO.bind ?_ (fun _ => ?_)
set_option maxHeartbeats 8000000 in
set_option maxRecDepth 100000 in
theorem octets_Get.calls (k : Nat) (A0 : Option Addr) (c0 : Nat) (l0 : List Int) (a1 : Int) (a2 : Int) (r1 : Int) (r2 : Int) (w : World) (hr0 : Kd.C (Kd.int .u8) w A0 l0.length l0) (hc0 : l0.length ≤ c0) (h : octets_Get.f k l0 a1 a2 = some (r1, r2)) :
  Calls Try.prog 33 #[.slice A0 l0.length c0, .int .i64 a1, .int .i64 a2] w fun e w' => e = .returned (.tuple #[.int .u64 r1, .int .i64 r2]) ∧ Drawn0 w w' := by
 have HR0 := Aside0.mk hr0; have HC0 := Aside0.mk hc0; clear hr0 hc0; have H := h; unfold octets_Get.f at H; clear h; have HC4 := Aside0.mk H; clear H
 go_enter Try.func33, Try.ntmps33
 go_upto_region 1 with (fail)
 go_cut [16] (fun v16 wc => ∃ (kq : Nat) (x16_3 : Bool), v16 = .bool x16_3 ∧ Aside0 (octets_Get.j0 kq l0 a1 a2 x16_3 = some (r1, r2)) ∧ Aside0 (kq ≤ k) ∧ Drawn0 w wc)
 case first =>
  have H := HC4.out; clear HC4
  by_cases c5 : a2 < 1
  case' _ =>
   rw [if_pos c5] at H; have c5b0 := decide_eq_true c5; clear c5
   (first | rw [c5b0] | (simp only [i64_w, i32_w]; rw [c5b0]) | skip)
  rotate_left 1
  case' _ =>
   rw [if_neg c5] at H; have c5b0 := decide_eq_false c5; clear c5
   (first | rw [c5b0] | (simp only [i64_w, i32_w]; rw [c5b0]) | skip)
  all_goals (have H' := Aside0.mk H; clear H; go_wp2; go_meet; (case rel => exact ⟨_, _, (by first | rfl | (simp; done) | (simp [*]; done)), H', ⟨by first | omega | exact Nat.le_refl _⟩, by repeat (first | exact Drawn0.refl _ | apply Drawn0.step)⟩))
 case rest =>
  clear HC4; (try clear p2 c3 c5b0); obtain ⟨kq, x16_3, rfl, HA, HJ3, ⟨mc3, rfl⟩⟩ := hcut; cases kq with
  | zero => exact absurd HA.out (by simp [octets_Get.j0])
  | succ kj3 =>
   have H := HA.out; clear HA; simp only [octets_Get.j0] at H
   by_cases c6 : x16_3 = true
   ·
    subst c6; rw [if_pos rfl] at H; simp only [Option.some.injEq, Prod.mk.injEq] at H; obtain ⟨rfl, rfl⟩ := H
    go_wp2
    go_ret2
    exact ⟨by first | rfl | (simp; done) | (simp [*]; done), by repeat (first | exact Drawn0.refl _ | apply Drawn0.step)⟩
   ·
    replace c6 := Bool.eq_false_iff.mpr c6; subst c6; rw [if_neg Bool.false_ne_true] at H; have HC7 := Aside0.mk H; clear H
    go_upto_region 3 with (fail)
    go_cut [32] (fun v32 wc => ∃ (kq : Nat) (x32_6 : Bool), v32 = .bool x32_6 ∧ Aside0 (octets_Get.j1 kq l0 a1 a2 x32_6 = some (r1, r2)) ∧ Aside0 (kq ≤ kj3) ∧ Drawn0 w wc)
    case first =>
     have H := HC7.out; clear HC7
     by_cases c8 : a1 < 0
     case' _ =>
      rw [if_pos c8] at H; have c8b0 := decide_eq_true c8; clear c8
      (first | rw [c8b0] | (simp only [i64_w, i32_w]; rw [c8b0]) | skip)
     rotate_left 1
     case' _ =>
      rw [if_neg c8] at H; have c8b0 := decide_eq_false c8; clear c8
      (first | rw [c8b0] | (simp only [i64_w, i32_w]; rw [c8b0]) | skip)
      by_cases c9 : a1 > (l0.length : Int)
      case' _ =>
       rw [if_pos c9] at H; have c9b0 := decide_eq_true c9; clear c9
      rotate_left 1
      case' _ =>
       rw [if_neg c9] at H; have c9b0 := decide_eq_false c9; clear c9
     all_goals (have H' := Aside0.mk H; clear H; go_wp2; go_meet; (case rel => exact ⟨_, _, (by first | rfl | (simp; done) | (simp [*]; done)), H', ⟨by have := HJ3.out; first | omega | exact Nat.le_refl _⟩, by repeat (first | exact Drawn0.refl _ | apply Drawn0.step)⟩))
    case rest =>
     clear HC7; (try clear p6 c8b0 c9b0); obtain ⟨kq, x32_6, rfl, HA, HJ6, ⟨mc6, rfl⟩⟩ := hcut; cases kq with
     | zero => exact absurd HA.out (by simp [octets_Get.j1])
     | succ kj6 =>
      have H := HA.out; clear HA; simp only [octets_Get.j1] at H
      by_cases c10 : x32_6 = true
      ·
       subst c10; rw [if_pos rfl] at H; simp only [Option.some.injEq, Prod.mk.injEq] at H; obtain ⟨rfl, rfl⟩ := H
       go_wp2
       go_ret2
       exact ⟨by first | rfl | (simp; done) | (simp [*]; done), by repeat (first | exact Drawn0.refl _ | apply Drawn0.step)⟩
      ·
       replace c10 := Bool.eq_false_iff.mpr c10; subst c10; rw [if_neg Bool.false_ne_true] at H
       by_cases c11 : 0 ≤ a1
       ·
        rw [if_pos c11] at H; have c11b0 := eq_true c11; have c11b1 := decide_eq_true c11; clear c11
        by_cases c12 : a1 ≤ (wrap64 (a1 + a2))
        ·
         rw [if_pos c12] at H; have c12b0 := eq_true c12; have c12b1 := decide_eq_true c12
         by_cases c13 : (wrap64 (a1 + a2)) ≤ (l0.length : Int)
         ·
          rw [if_pos c13] at H; have c13b0 := eq_true c13; have c13b1 := decide_eq_true c13; obtain ⟨y231, hy231⟩ : ∃ y_ : List Int, y_ = ((l0.take ((wrap64 (a1 + a2)) : Int).toNat).drop (a1 : Int).toNat) := ⟨_, rfl⟩
          replace H : (octets_Get.l0 kj6 0 y231 (y231.length : Int) 0) = some (r1, r2) := by first | (rw [hy231]; with_reducible exact H) | (have H2_ := (Option.bind_some _ _).symm.trans H; rw [hy231]; with_reducible exact H2_) | (have H2_ := (Option.bind_some _ _).symm.trans H; with_reducible exact H2_) | with_reducible exact H | (rw [hy231]; exact H) | exact H
          have Ny231 := Aside0.mk hy231; clear hy231; have H' := Aside0.mk H; clear H; have q14 : ((wrap64 (a1 + a2)) : Int) ≤ ((l0.length : Int) : Int) := of_decide_eq_true (by first | (with_reducible assumption) | assumption); obtain ⟨i014, hi014, _, hsz14, _⟩ := info_parts info5; have hroom14 : l0.length ≤ c0 := HC0.out; have hC14 : Kd.C (Kd.int .u8) _ A0 l0.length l0 := HR0.out; have ql14 : (a1 : Int) ≤ ((wrap64 (a1 + a2)) : Int) := of_decide_eq_true (by first | (with_reducible assumption) | assumption); have q014 : (0 : Int) ≤ (a1 : Int) := of_decide_eq_true (by first | (with_reducible assumption) | assumption); have hcut14 := cut_mid (P := Try.prog) 25 5 .i64 .i64 Try.underlying25 hi014 1 hsz14 A0 l0.length c0 a1 (wrap64 (a1 + a2)) q014 ql14 q14 hroom14; have hr14 := Kd.C_mid (lo := (a1 : Int).toNat) (hi := ((wrap64 (a1 + a2)) : Int).toNat) (c := c0) hC14 (by omega) (by omega) hroom14; obtain ⟨A14, hA14⟩ : ∃ A1, A1 = (if c0 = (a1 : Int).toNat then A0 else (A0 : Option Addr).map (·.add ((a1 : Int).toNat * 1))) := ⟨_, rfl⟩; obtain ⟨c14, hc14⟩ : ∃ c1, c1 = c0 - (a1 : Int).toNat := ⟨_, rfl⟩; have hy14 : y231.length = ((wrap64 (a1 + a2)) : Int).toNat - (a1 : Int).toNat := (by rw [Ny231.out, List.length_drop, List.length_take] <;> omega); rw [show ((l0).take ((wrap64 (a1 + a2)) : Int).toNat).drop (a1 : Int).toNat = y231 from Ny231.out.symm] at hr14; replace hr14 : Kd.C (Kd.int .u8) _ A14 y231.length y231 := (by rw [hA14]; exact hr14); rw [← hy14, ← hA14, ← hc14] at hcut14; have HR234 := Aside0.mk hr14
          have HC234 := Ext.a (show y231.length ≤ c14 from by rw [hy14, hc14]; exact Nat.sub_le_sub_right (Nat.le_trans (by omega) hroom14) _); clear hr14 hC14 hroom14 hi014 hsz14 hc14; have KY14 := Aside0.mk hy14; have KA14 := Aside0.mk hA14; clear hy14 hA14; replace q14 := eq_true q14
          go_wp2
          go_loopg [8, 40] kj6 (fun kq v8 v40 w' => ∃ (x8_3 : Int) (x40_3 : Int), v8 = .int .u64 x8_3 ∧ v40 = .int .i64 x40_3 ∧ Aside0 (octets_Get.l0 kq x8_3 y231 (y231.length : Int) x40_3 = some (r1, r2)) ∧ Aside0 (kq ≤ kj6) ∧ Drawn0 w w')
          case atStart => exact ⟨(0), (0), (by first | rfl | (simp; done) | (simp [*]; done)), (by first | rfl | (simp; done) | (simp [*]; done)), H', ⟨Nat.le_refl _⟩, by repeat (first | exact Drawn0.refl _ | apply Drawn0.step)⟩
          case round =>
           clear H'; (try clear c1 q1 c11b0 c11b1 c12 c12b0 c12b1 c13 c13b0 c13b1 c14 q14 q014); obtain ⟨x8_3, x40_3, rfl, rfl, HA, HK3, ⟨m3, rfl⟩⟩ := hrel; cases gk with
           | zero => exact absurd HA.out (by simp [octets_Get.l0])
           | succ k3 =>
            have H := HA.out; clear HA; simp only [octets_Get.l0] at H
            by_cases c15 : x40_3 < (y231.length : Int)
            ·
             rw [if_pos c15] at H; have c15b0 := decide_eq_true c15; clear c15
             by_cases c16 : 0 ≤ x40_3
             ·
              rw [if_pos c16] at H; have c16b0 := decide_eq_true c16; clear c16
              by_cases c17 : x40_3 < (y231.length : Int)
              ·
               rw [if_pos c17] at H; have c17b0 := decide_eq_true c17; clear c17; have H' := Aside0.mk H; clear H; have p235 : 0 ≤ (x40_3 : Int) := of_decide_eq_true (by first | (with_reducible assumption) | assumption); have q235 : x40_3 < (y231.length : Int) := of_decide_eq_true (by first | (with_reducible assumption) | assumption); obtain ⟨ad235, e235, hx235_0⟩ := Kd.at_int HR234.out x40_3 p235 q235; cases e235; replace p235 := eq_true p235; replace q235 := eq_true q235
               go_wp2
               go_roundg k3
               case measure => have := HJ3.out; have := HJ6.out; have := HK3.out; omega
               case rel => exact ⟨(Go.bits .or .u64 (IntKind.u64.wrap (x8_3 * 256)) (IntKind.u64.wrap (rd y231 x40_3))), (wrap64 (x40_3 + 1)), (by first | rfl | (simp; done) | (simp [*]; done)), (by first | rfl | (simp; done) | (simp [*]; done)), H', ⟨by have := HJ3.out; have := HJ6.out; have := HK3.out; omega⟩, by repeat (first | exact Drawn0.refl _ | apply Drawn0.step)⟩
              · rw [if_neg c17] at H; exact absurd H (by simp)
             · rw [if_neg c16] at H; exact absurd H (by simp)
            ·
             rw [if_neg c15] at H; have c15b0 := decide_eq_false c15; clear c15; simp only [Option.some.injEq, Prod.mk.injEq] at H; obtain ⟨rfl, rfl⟩ := H
             go_wp2
             go_ret2
             exact ⟨by first | rfl | (simp; done) | (simp [*]; done), by repeat (first | exact Drawn0.refl _ | apply Drawn0.step)⟩
         · rw [if_neg c13] at H; exact absurd H (by simp)
        · rw [if_neg c12] at H; exact absurd H (by simp)
       · rw [if_neg c11] at H; exact absurd H (by simp)

end Go.Proofs.Ytandeendeoempaa.PM
