-- Written by wip/printx.py, a program of this work over the kit's print, for this claim.
import Derived.Test.YtmaoppljldllfaaPJx0
import Derived.Test.YtmaoppljldllfaaPJx1
namespace Go.Proofs.Ytmaoppljldllfaa.PJ
open Go.RowKit Go.Proofs.YtmaoppljldllfaaW.PrintWords Go.Proofs.YtmaoppljldllfaaW.PrintLast Go.Proofs.YtmaoppljldllfaaW.PrintMore
attribute [local go_sem] max2_int min2_int max_two min_two max_three min_three max_four min_four   -- for this text's walks alone
attribute [local go_sem] Ext.pick_u8 Ext.pick_u32 Ext.pick_u64
set_option linter.unusedVariables false
set_option linter.unusedSimpArgs false



/-! ### terrierlaw02_lives: function 8 -/
def terrierlaw02_lives.f (k : Nat)  : Option (Bool) := (sum_Sum.f k (([(([49, 50, 51, 52, 53, 54, 55, 56, 57] : List Int))] : List (List Int)))).bind fun t111 => (some (t111 == 3808858755))
theorem terrierlaw02_lives.mono : ∀ k, LeO (terrierlaw02_lives.f k ) (terrierlaw02_lives.f (k + 1) ) := by
 intro  k
 unfold terrierlaw02_lives.f
 repeat' first
   | (with_reducible exact sum_Sum.mono _ _)
   | (with_reducible exact LeO.refl _)
   | (with_reducible exact LeO.none _)
   | (with_reducible refine LeO.ite ?_ ?_)
   | (with_reducible refine LeO.bind ?_ (fun _ => ?_))
   | exact sum_Sum.mono _ _
   | exact LeO.none _
   | refine LeO.ite ?_ ?_
   | refine LeO.bind ?_ (fun _ => ?_)
set_option maxHeartbeats 8000000 in
set_option maxRecDepth 100000 in
theorem terrierlaw02_lives.calls (k : Nat)  (r : Bool) (w : World) (h : terrierlaw02_lives.f k  = some r) :
  Calls Try.prog 8 #[] w fun e w' => e = .returned (.bool r) ∧ Below w.heap.size w w' := by
 have HB := Ext.a (Below.refl w.heap.size w)
 have H : ((sum_Sum.f k (([(([49, 50, 51, 52, 53, 54, 55, 56, 57] : List Int))] : List (List Int)))).bind fun t111 => (some (t111 == 3808858755))) = some r := h
 clear h
 obtain ⟨y105, hy105⟩ : ∃ y_ : List Int, y_ = (([49, 50, 51, 52, 53, 54, 55, 56, 57] : List Int)) := ⟨_, rfl⟩
 replace H : ((sum_Sum.f k (([y105] : List (List Int)))).bind fun t111 => (some (t111 == 3808858755))) = some r := by first | (rw [hy105]; with_reducible exact H) | (have H2_ := (Option.bind_some _ _).symm.trans H; rw [hy105]; with_reducible exact H2_) | (have H2_ := (Option.bind_some _ _).symm.trans H; with_reducible exact H2_) | with_reducible exact H | (rw [hy105]; exact H) | exact H
 have Ny105 := Aside0.mk hy105
 clear hy105
 obtain ⟨y108, hy108⟩ : ∃ y_ : List (List Int), y_ = (([y105] : List (List Int))) := ⟨_, rfl⟩
 replace H : ((sum_Sum.f k y108).bind fun t111 => (some (t111 == 3808858755))) = some r := by first | (rw [hy108]; with_reducible exact H) | (have H2_ := (Option.bind_some _ _).symm.trans H; rw [hy108]; with_reducible exact H2_) | (have H2_ := (Option.bind_some _ _).symm.trans H; with_reducible exact H2_) | with_reducible exact H | (rw [hy108]; exact H) | exact H
 have Ny108 := Aside0.mk hy108
 clear hy108
 replace H := Option.bind_eq_some_iff.mp H
 obtain ⟨t111, A10, H⟩ := H
 replace H : (some (t111 == 3808858755)) = some r := H
 have A1 := Aside0.mk A10
 clear A10
 obtain rfl := Option.some.inj H
 go_enter Try.func8, Try.ntmps8
 go_wp2_with (first | ((with_reducible refine gate_dst (N := 1) rfl ?_); refine Ext.V_lit 24 _ 5 Try.underlying24 Try.underlying5 ?hg (N := 1) ?hd ?hg2 ?ho2 (xs := ([49, 50, 51, 52, 53, 54, 55, 56, 57] : List Int)) (inner := [.int .u8 49, .int .u8 50, .int .u8 51, .int .u8 52, .int .u8 53, .int .u8 54, .int .u8 55, .int .u8 56, .int .u8 57]) (ok := fun k_ => w.heap.size ≤ k_) (okp := fun _ => False) ?hr ?hp (fun _ hk => hk.elim) (Nat.le_refl _) (Below.refl _ _) (Nat.le_refl _) (by simp) (by simp) ?_; (case hd => rfl); (case hg2 => exact fun _ => by first | rfl | (go_simp; done)); (case ho2 => exact ⟨_, rfl, fun _ => by first | rfl | (go_simp; done) | (go_simp; rfl)⟩); (case hg => rfl); (case hr => first | (go_simp; done) | (go_simp; rfl)); (case hp => exact (Reps.one (show Kd.M (Kd.int .u8) _ _ _ 49 [.int .u8 49] from rfl) (Reps.one (show Kd.M (Kd.int .u8) _ _ _ 50 [.int .u8 50] from rfl) (Reps.one (show Kd.M (Kd.int .u8) _ _ _ 51 [.int .u8 51] from rfl) (Reps.one (show Kd.M (Kd.int .u8) _ _ _ 52 [.int .u8 52] from rfl) (Reps.one (show Kd.M (Kd.int .u8) _ _ _ 53 [.int .u8 53] from rfl) (Reps.one (show Kd.M (Kd.int .u8) _ _ _ 54 [.int .u8 54] from rfl) (Reps.one (show Kd.M (Kd.int .u8) _ _ _ 55 [.int .u8 55] from rfl) (Reps.one (show Kd.M (Kd.int .u8) _ _ _ 56 [.int .u8 56] from rfl) (Reps.one (show Kd.M (Kd.int .u8) _ _ _ 57 [.int .u8 57] from rfl) (Reps.none _ _))))))))))); intro v106 w2 ho3 hb hg_ hnew_; clear hg_ hnew_; (first | rw [← Ny105.out] at ho3 | (simp only [Int.reduceToNat] at ho3; rw [← Ny105.out] at ho3)); have n0_ := Ext.a (Kd.V_lower (Kd.V_mono (ok' := fun k_ => True) ho3 (fun k_ hk_ => trivial)) (below_size (Ext.nB HB.out))); have n1_ := Ext.a (below_step (Ext.nB HB.out) hb); clear HB; have HO107 := n0_; have HB := n1_; clear n0_ n1_; clear hb ho3; obtain ⟨Ao4, co4, eo4⟩ := Kd.V_slice HO107.out; subst eo4) | ((with_reducible refine gate_dst (N := 3) rfl ?_); refine Kd.N_lit (Kd.slice 5 (Kd.int .u8)) _ 24 ?hg (N' := 3) ?hd (xs := ([y105] : List (List Int))) (inner := [.slice Ao4 y105.length co4]) (ok := (fun _ => True)) (okp := (fun _ => True)) ?hr ?hp (fun _ hk => hk) ((show ∀ k_, w2.heap.size ≤ k_ → (fun _ => True) k_ from fun k_ hk => trivial) _ (Nat.le_refl _)) (Below.refl _ _) (Nat.le_refl _) (by simp) ?_; (case hd => rfl); (case hg => rfl); (case hr => first | (go_simp; done) | (go_simp; rfl)); (case hp => exact (Reps.one (show Kd.FK (Kd.slice 5 (Kd.int .u8)) _ _ y105 [.slice Ao4 y105.length co4] from (Kd.FK_slice_mk (Kd.V_reads' (Kd.V_mono (e := 0) (base := 0) (ok' := (fun _ => True)) (HO107.out) (fun k_ hk => trivial))).2.1 (Kd.V_F (e := 0) (base := 0) (Kd.V_mono (e := 0) (base := 0) (ok' := (fun _ => True)) (HO107.out) (fun k_ hk => trivial))))) (Reps.none _ _))); intro v109 w5 ho6 hb hg_ hnew_; clear hg_ hnew_; (first | rw [← Ny108.out] at ho6 | (simp only [Int.reduceToNat] at ho6; rw [← Ny108.out] at ho6)); have n0_ := Ext.a (Kd.V_elder' (Ext.nV HO107.out) (Kd.N_base ho6) hb); have n1_ := Ext.a (Kd.N_lower ho6 (below_size (Ext.nB HB.out))); have n2_ := Ext.a (below_step (Ext.nB HB.out) hb); clear HO107 HB; have HO107 := n0_; have HO110 := n1_; have HB := n2_; clear n0_ n1_ n2_; clear hb ho6; obtain ⟨Ao7, co7, eo7⟩ := Kd.N_slice HO110.out; subst eo7) | ((with_reducible refine gate_callee (f := 9) rfl ?_); refine goesL_ (some 4) rfl rfl Try.func9 (by kernel_rfl) rfl #[.slice Ao7 y108.length co7] rfl (by (try simp only [List.map_toArray, List.map_cons, List.map_nil]); first | done | rfl | (simp only [List.length_drop, List.length_take]; rfl)) ?_; (with_reducible refine (sum_Sum.calls k _ _ y108 t111 _ ?side1 ?side2 A1.out).mono ?_); (case side1 => exact Ext.nC (Kd.N_reads' HO110.out).2.2); (case side2 => exact (Kd.N_reads' HO110.out).2.1); rintro e w' ⟨rfl, ⟨nd, rfl⟩⟩; refine ⟨_, rfl, ?_⟩))
 go_ret
 exact ⟨by first | rfl | (simp [errW_none, errW_some] <;> rfl) | (simp [*, errW_none, errW_some] <;> rfl), by repeat (first | (with_reducible first | exact HB.out | apply Ext.ba | apply Ext.bn | apply Ext.bd) | exact HB.out | exact .refl _ _)⟩

end Go.Proofs.Ytmaoppljldllfaa.PJ
