-- Written by wip/printx.py, a program of this work over the kit's print, for this claim.
import Derived.Test.YtdakdlgkhnjhoaaPWx0
import Derived.Test.YtdakdlgkhnjhoaaPWx5
namespace Go.Proofs.Ytdakdlgkhnjhoaa.PW
open Go.RowKit Go.Proofs.YtdakdlgkhnjhoaaW.PrintWords Go.Proofs.YtdakdlgkhnjhoaaW.PrintLast Go.Proofs.YtdakdlgkhnjhoaaW.PrintMore
attribute [local go_sem] max2_int min2_int max_two min_two max_three min_three max_four min_four   -- for this text's walks alone
attribute [local go_sem] Ext.pick_u8 Ext.pick_u32 Ext.pick_u64
set_option linter.unusedVariables false
set_option linter.unusedSimpArgs false



/-! ### terrierlaw17_lives: function 7 -/
def terrierlaw17_lives.l0 : Nat → List (S38) → List Int → Int → Int → Option (Bool)
 | 0, _, _, _, _ => none
 | k + 1, x1, x6, x7, x8 => if x8 < x7 then (if 0 ≤ x8 then (if x8 < (x6.length : Int) then (if x1.length < 799644820200 then (terrierlaw17_lives.l0 k (x1 ++ [(⟨1, (⟨(([97] : List Int)), ([] : List Int), 0, rd x6 x8, 0, 0⟩ : S36), false, (⟨([] : List Int), ([] : List Int), 0, 0, 0, 0⟩ : S36)⟩ : S38)]) x6 x7 (wrap64 (x8 + 1))) else (none)) else (none)) else (none)) else ((batch_Cut.f k x1 3).bind fun bt185 => (if (bt185.1.length : Int) = 3 then (if (bt185.2.length : Int) = 1 then (if 0 < (bt185.2.length : Int) then (some (((rd_T38 bt185.2 0).f1.f3) == 3)) else (none)) else (some false)) else (some false)))
def terrierlaw17_lives.f (k : Nat)  : Option (Bool) := (some (([1, 1, 2, 3] : List Int) : List Int)).bind fun y175 => (terrierlaw17_lives.l0 k ([] : List (S38)) y175 (y175.length : Int) 0)
theorem terrierlaw17_lives.mono_l : ∀ k, (∀ y0 y1 y2 y3, LeO (terrierlaw17_lives.l0 k y0 y1 y2 y3) (terrierlaw17_lives.l0 (k + 1) y0 y1 y2 y3))
 | 0 => fun _ _ _ _ r h => by simp [terrierlaw17_lives.l0] at h
 | k + 1 => by
  have ih0 := terrierlaw17_lives.mono_l k
  ·
   intro y0 y1 y2 y3
   unfold terrierlaw17_lives.l0
   repeat' first
   | (with_reducible exact ih0 _ _ _ _)
   | (with_reducible exact batch_Cut.mono _ _ _)
   | (with_reducible exact LeO.refl _)
   | (with_reducible exact LeO.none _)
   | (with_reducible refine LeO.ite ?_ ?_)
   | (with_reducible refine LeO.bind ?_ (fun _ => ?_))
   | exact ih0 _ _ _ _
   | exact batch_Cut.mono _ _ _
   | exact LeO.none _
   | refine LeO.ite ?_ ?_
   | refine LeO.bind ?_ (fun _ => ?_)
theorem terrierlaw17_lives.mono : ∀ k, LeO (terrierlaw17_lives.f k ) (terrierlaw17_lives.f (k + 1) ) := by
 intro  k
 have ih0 := terrierlaw17_lives.mono_l k
 unfold terrierlaw17_lives.f
 repeat' first
   | (with_reducible exact ih0 _ _ _ _)
   | (with_reducible exact batch_Cut.mono _ _ _)
   | (with_reducible exact LeO.refl _)
   | (with_reducible exact LeO.none _)
   | (with_reducible refine LeO.ite ?_ ?_)
   | (with_reducible refine LeO.bind ?_ (fun _ => ?_))
   | exact ih0 _ _ _ _
   | exact batch_Cut.mono _ _ _
   | exact LeO.none _
   | refine LeO.ite ?_ ?_
   | refine LeO.bind ?_ (fun _ => ?_)
set_option maxHeartbeats 8000000 in
set_option maxRecDepth 100000 in
theorem terrierlaw17_lives.calls (k : Nat)  (r : Bool) (w : World) (h : terrierlaw17_lives.f k  = some r) :
  Calls Try.prog 7 #[] w fun e w' => e = .returned (.bool r) ∧ Below w.heap.size w w' := by
 have hu36 := Try.underlying36
 have hu38 := Try.underlying38
 have HB := Ext.a (Below.refl w.heap.size w)
 have H : ((some (([1, 1, 2, 3] : List Int) : List Int)).bind fun y175 => (terrierlaw17_lives.l0 k ([] : List (S38)) y175 (y175.length : Int) 0)) = some r := h
 clear h
 obtain ⟨y175, hy175⟩ : ∃ y_ : List Int, y_ = (([1, 1, 2, 3] : List Int)) := ⟨_, rfl⟩
 replace H : (terrierlaw17_lives.l0 k ([] : List (S38)) y175 (y175.length : Int) 0) = some r := by first | (rw [hy175]; with_reducible exact H) | (have H2_ := (Option.bind_some _ _).symm.trans H; rw [hy175]; with_reducible exact H2_) | (have H2_ := (Option.bind_some _ _).symm.trans H; with_reducible exact H2_) | with_reducible exact H | (rw [hy175]; exact H) | exact H
 have Ny175 := Aside0.mk hy175
 clear hy175
 have H' := Aside0.mk H
 clear H
 go_enter Try.func7, Try.ntmps7
 go_wp2_with (first | ((with_reducible refine gate_dst (N := 6) rfl ?_); (try (refine gate_guard (by rfl) ?_; dsimp only)); refine Kd.R_lit (Kd.int .i64) _ 2 ?hg (N := 6) ?hd (xs := ([1, 1, 2, 3] : List Int)) (inner := [.int .i64 1, .int .i64 1, .int .i64 2, .int .i64 3]) (ok := fun _ => True) (okp := fun _ => True) ?hr ?hp (fun _ hk => hk) trivial (Below.refl _ _) (Nat.le_refl _) (by simp) ?_; (case hd => rfl); (case hg => rfl); (case hr => first | (go_simp; done) | (go_simp; rfl)); (case hp => exact (Reps.one (show Kd.M (Kd.int .i64) _ _ _ 1 [.int .i64 1] from rfl) (Reps.one (show Kd.M (Kd.int .i64) _ _ _ 1 [.int .i64 1] from rfl) (Reps.one (show Kd.M (Kd.int .i64) _ _ _ 2 [.int .i64 2] from rfl) (Reps.one (show Kd.M (Kd.int .i64) _ _ _ 3 [.int .i64 3] from rfl) (Reps.none _ _)))))); intro v176 w1 ho2 hb hg_ hnew_; clear hg_ hnew_; (first | rw [← Ny175.out] at ho2 | (simp only [Int.reduceToNat] at ho2; rw [← Ny175.out] at ho2)); have n0_ := Ext.a (Kd.R_lower ho2 (below_size (Ext.nB HB.out))); have n1_ := Ext.a (below_step (Ext.nB HB.out) hb); clear HB; have HO177 := n0_; have HB := n1_; clear n0_ n1_; clear hb ho2; obtain ⟨Ao3, co3, eo3⟩ := Kd.R_slice HO177.out; subst eo3))
 go_loopg [1, 8] k (fun kq v1 v8 w' => ∃ (x1_1 : List (S38)) (x8_1 : Int), v8 = .int .i64 x8_1 ∧ Aside0 (terrierlaw17_lives.l0 kq x1_1 y175 (y175.length : Int) x8_1 = some r) ∧ Aside0 (kq ≤ k) ∧ Aside0 (Kd.N k38 38 w' w.heap.size (fun k_ => some k_ ≠ ((.slice Ao3 y175.length co3) : Value).ownBlock) v1 x1_1) ∧ Aside0 (Kd.R (Kd.int .i64) 2 w' w.heap.size (fun _ => True) (.slice Ao3 y175.length co3) y175) ∧ Aside0 (Below w.heap.size w w'))
 case atStart => exact ⟨(([] : List (S38))), (0), (by first | rfl | (simp; done) | (simp [*]; done)), H', ⟨Nat.le_refl _⟩, ⟨by first | exact Kd.S_nil _ _ _ _ _ | exact Kd.N_nil _ _ _ _ _ | exact Kd.V_nil _ _ _ _ _ | exact Kd.Q_nil _ _ _ _ _ | exact Kd.R_nil _ _ _ _ _⟩, ⟨by (with_reducible repeat (first | apply Kd.R_alloc | apply Kd.R_drewN | apply Kd.R_drew)); exact HO177.out⟩, ⟨by repeat (first | (with_reducible first | exact HB.out | apply Ext.ba | apply Ext.bn | apply Ext.bd) | exact HB.out | exact .refl _ _)⟩⟩
 case round =>
  clear H'
  try clear p2
  obtain ⟨x1_1, x8_1, rfl, HA, HK1, HO_1, HO_6, HB⟩ := hrel
  cases gk with
  | zero => exact absurd HA.out (by simp [terrierlaw17_lives.l0])
  | succ k1 =>
   have H := HA.out
   clear HA
   simp only [terrierlaw17_lives.l0] at H
   by_cases c4 : x8_1 < (y175.length : Int)
   ·
    rw [if_pos c4] at H
    have c4b0 : decide (x8_1 < (y175.length : Int)) = true := decide_eq_true c4
    clear c4
    by_cases c5 : 0 ≤ x8_1
    ·
     rw [if_pos c5] at H
     have c5b0 : decide (0 ≤ x8_1) = true := decide_eq_true c5
     clear c5
     by_cases c6 : x8_1 < (y175.length : Int)
     ·
      rw [if_pos c6] at H
      have c6b0 : decide (x8_1 < (y175.length : Int)) = true := decide_eq_true c6
      clear c6
      obtain ⟨y179, hy179⟩ : ∃ y_ : List Int, y_ = (([97] : List Int)) := ⟨_, rfl⟩
      replace H : (if x1_1.length < 799644820200 then (terrierlaw17_lives.l0 k1 (x1_1 ++ [(⟨1, (⟨y179, ([] : List Int), 0, rd y175 x8_1, 0, 0⟩ : S36), false, (⟨([] : List Int), ([] : List Int), 0, 0, 0, 0⟩ : S36)⟩ : S38)]) y175 (y175.length : Int) (wrap64 (x8_1 + 1))) else (none)) = some r := by first | (rw [hy179]; with_reducible exact H) | (have H2_ := (Option.bind_some _ _).symm.trans H; rw [hy179]; with_reducible exact H2_) | (have H2_ := (Option.bind_some _ _).symm.trans H; with_reducible exact H2_) | with_reducible exact H | (rw [hy179]; exact H) | exact H
      have Ny179 := Aside0.mk hy179
      clear hy179
      by_cases c7 : x1_1.length < 799644820200
      ·
       rw [if_pos c7] at H
       have LMc7 := Aside0.mk c7
       clear c7
       obtain ⟨y182, hy182⟩ : ∃ y_ : List (S38), y_ = (x1_1 ++ [(⟨1, (⟨y179, ([] : List Int), 0, rd y175 x8_1, 0, 0⟩ : S36), false, (⟨([] : List Int), ([] : List Int), 0, 0, 0, 0⟩ : S36)⟩ : S38)]) := ⟨_, rfl⟩
       replace H : (terrierlaw17_lives.l0 k1 y182 y175 (y175.length : Int) (wrap64 (x8_1 + 1))) = some r := by first | (rw [hy182]; with_reducible exact H) | (have H2_ := (Option.bind_some _ _).symm.trans H; rw [hy182]; with_reducible exact H2_) | (have H2_ := (Option.bind_some _ _).symm.trans H; with_reducible exact H2_) | with_reducible exact H | (rw [hy182]; exact H) | exact H
       have Ny182 := Aside0.mk hy182
       clear hy182
       have H' := Aside0.mk H
       clear H
       have p178 : 0 ≤ (x8_1 : Int) := of_decide_eq_true (by first | (with_reducible assumption) | assumption)
       have q178 : x8_1 < (y175.length : Int) := of_decide_eq_true (by first | (with_reducible assumption) | assumption)
       obtain ⟨ad178, e178, hx178_0⟩ := Kd.at_int (Kd.R_reads' HO_6.out).2.2 x8_1 p178 q178
       cases e178
       replace p178 := eq_true p178
       replace q178 := eq_true q178
       go_wp2_with (first | ((with_reducible refine gate_dst (N := 13) rfl ?_); (try (refine gate_guard (by rfl) ?_; dsimp only)); refine Ext.V_lit 26 _ 5 Try.underlying26 Try.underlying5 ?hg (N := 13) ?hd ?hg2 ?ho2 (xs := ([97] : List Int)) (inner := [.int .u8 97]) (ok := fun k_ => wr.heap.size ≤ k_) (okp := fun _ => False) ?hr ?hp (fun _ hk => hk.elim) (Nat.le_refl _) (Below.refl _ _) (Nat.le_refl _) (by simp) (by simp) ?_; (case hd => rfl); (case hg2 => exact fun _ => by first | rfl | (go_simp; done)); (case ho2 => exact ⟨_, rfl, fun _ => by first | rfl | (go_simp; done) | (go_simp; rfl)⟩); (case hg => rfl); (case hr => first | (go_simp; done) | (go_simp; rfl)); (case hp => exact (Reps.one (show Kd.M (Kd.int .u8) _ _ _ 97 [.int .u8 97] from rfl) (Reps.none _ _))); intro v180 w8 ho9 hb hg_ hnew_; clear hg_ hnew_; (first | rw [← Ny179.out] at ho9 | (simp only [Int.reduceToNat] at ho9; rw [← Ny179.out] at ho9)); have n0_ := Ext.a (Kd.N_below (Ext.nN HO_1.out) hb); have n1_ := Ext.a (Kd.R_below (Ext.nR HO_6.out) hb); have n2_ := Ext.a (Kd.V_lower (Kd.V_mono (ok' := fun k_ => some k_ ≠ (u1 : Value).ownBlock ∧ some k_ ≠ (.slice (some ad178) y175.length co3 : Value).ownBlock) ho9 (fun k_ hk_ => ⟨(Kd.fresh' (Kd.N_lt (Ext.nN HO_1.out)) k_ hk_), (Kd.fresh' (Kd.R_lt (Ext.nR HO_6.out)) k_ hk_)⟩)) (below_size (Ext.nB HB.out))); have n3_ := Ext.a (below_step (Ext.nB HB.out) hb); clear HO_1 HO_6 HB; have HO_1 := n0_; have HO_6 := n1_; have HO181 := n2_; have HB := n3_; clear n0_ n1_ n2_ n3_; clear hb ho9; obtain ⟨Ao10, co10, eo10⟩ := Kd.V_slice HO181.out; subst eo10) | ((with_reducible refine gate_builtin (b := .append) (xs := #[.tmp 12, .tmp 18]) rfl ?_); (try (refine gate_guard (by rfl) ?_; dsimp only)); at_builtin; refine Kd.N_append k38 (w0 := w) w.heap.size rfl (.tmp 12) (.tmp 18) 22 38 (.agg #[(.int .i64 0), (.slice none 0 0), (.slice none 0 0), (.int .i64 0), (.int .i64 0), (.int .i64 0), (.int .i64 0), (.bool false), (.slice none 0 0), (.slice none 0 0), (.int .i64 0), (.int .i64 0), (.int .i64 0), (.int .i64 0)]) 176 rfl Try.underlying22 info38 rfl (by decide) (by omega) u1 x1_1 (⟨1, (⟨y179, ([] : List Int), 0, rd y175 x8_1, 0, 0⟩ : S36), false, (⟨([] : List Int), ([] : List Int), 0, 0, 0, 0⟩ : S36)⟩ : S38) [.int .i64 1, .slice Ao10 y179.length co10, .slice none 0 0, .int .i64 0, .int .i64 (rd y175 x8_1), .int .i64 0, .int .i64 0, .bool false, .slice none 0 0, .slice none 0 0, .int .i64 0, .int .i64 0, .int .i64 0, .int .i64 0] (fun k_ => some k_ ≠ (.slice (some ad178) y175.length co3 : Value).ownBlock) (fun k_ => ((fun k_ => some k_ ≠ (.slice (some ad178) y175.length co3 : Value).ownBlock)) k_ ∧ some k_ ≠ (u1 : Value).ownBlock) rfl rfl ?aP (fun _ hk => hk) ?aF ?aO ?aB ?aS ?aL ?_; (case aP => exact (k38_mkF _ _ (⟨1, (⟨y179, ([] : List Int), 0, rd y175 x8_1, 0, 0⟩ : S36), false, (⟨([] : List Int), ([] : List Int), 0, 0, 0, 0⟩ : S36)⟩ : S38) (Kd.V_reads' (Kd.V_mono (e := 0) (base := 0) (ok' := (fun k_ => ((fun k_ => some k_ ≠ (.slice (some ad178) y175.length co3 : Value).ownBlock)) k_ ∧ some k_ ≠ (u1 : Value).ownBlock)) (HO181.out) (fun k_ hk => ⟨hk.2, hk.1⟩))).2.1 (Kd.V_F (e := 0) (base := 0) (Kd.V_mono (e := 0) (base := 0) (ok' := (fun k_ => ((fun k_ => some k_ ≠ (.slice (some ad178) y175.length co3 : Value).ownBlock)) k_ ∧ some k_ ≠ (u1 : Value).ownBlock)) (HO181.out) (fun k_ hk => ⟨hk.2, hk.1⟩))) (Nat.le_refl _) (Kd.F_nil _ _ _) (Nat.le_refl _) (Kd.F_nil _ _ _) (Nat.le_refl _) (Kd.F_nil _ _ _))); (case aB => exact (Ext.nB HB.out)); (case aF => exact (fun k_ hk => Kd.fresh' (Kd.R_lt (Ext.nR HO_6.out)) k_ hk)); (case aO => exact (Ext.nN HO_1.out)); (case aS => exact (below_size (Ext.nB HB.out))); (case aL => have := LMc7.out; omega); intro v183 w11 ho hb hg hat; rw [← Ny182.out] at ho; have n0_ := Ext.a (Kd.R_over' (Ext.nR HO_6.out) (Kd.N_typed (Ext.nN HO_1.out)) (by decide) hg); have n1_ := Ext.a (Kd.V_afterv (ok := (fun k_ => some k_ ≠ (.slice (some ad178) y175.length co3 : Value).ownBlock)) (Ext.nV (Kd.V_mono HO181.out (fun _ hk => ⟨hk.2, hk.1⟩))) hg hat); have n2_ := Ext.a (hb); have n3_ := Ext.a (ho); clear HO_6 HO181 HB HO_1; have HO_6 := n0_; have HO181 := n1_; have HB := n2_; have HO184 := n3_; clear n0_ n1_ n2_ n3_; clear ho hb hg hat))
       go_roundg k1
       case measure => have := HK1.out; omega
       case rel => exact ⟨(y182), (wrap64 (x8_1 + 1)), (by first | rfl | (simp; done) | (simp [*]; done)), H', ⟨by have := HK1.out; omega⟩, ⟨by (with_reducible repeat (first | apply Kd.N_alloc | apply Kd.N_drewN | apply Kd.N_drew)); exact HO184.out⟩, ⟨by (with_reducible repeat (first | apply Kd.R_alloc | apply Kd.R_drewN | apply Kd.R_drew)); exact HO_6.out⟩, ⟨by repeat (first | (with_reducible first | exact HB.out | apply Ext.ba | apply Ext.bn | apply Ext.bd) | exact HB.out | exact .refl _ _)⟩⟩
      · rw [if_neg c7] at H; exact absurd H (by simp)
     · rw [if_neg c6] at H; exact absurd H (by simp)
    · rw [if_neg c5] at H; exact absurd H (by simp)
   ·
    rw [if_neg c4] at H
    have c4b0 : decide (x8_1 < (y175.length : Int)) = false := decide_eq_false c4
    clear c4
    replace H := Option.bind_eq_some_iff.mp H
    obtain ⟨⟨t185, t186⟩, A120, H⟩ := H
    replace H : (if (t185.length : Int) = 3 then (if (t186.length : Int) = 1 then (if 0 < (t186.length : Int) then (some (((rd_T38 t186 0).f1.f3) == 3)) else (none)) else (some false)) else (some false)) = some r := H
    have A12 := Aside0.mk A120
    clear A120
    by_cases c13 : (t185.length : Int) = 3
    ·
     rw [if_pos c13] at H
     have c13b0 : ((t185.length : Int) == 3) = true := beq_iff_eq.mpr c13
     have c13b1 : ((t185.length : Int) != 3) = false := bne_eq_false_iff_eq.mpr c13
     clear c13
     by_cases c14 : (t186.length : Int) = 1
     ·
      rw [if_pos c14] at H
      have c14b0 : ((t186.length : Int) == 1) = true := beq_iff_eq.mpr c14
      have c14b1 : ((t186.length : Int) != 1) = false := bne_eq_false_iff_eq.mpr c14
      clear c14
      by_cases c15 : 0 < (t186.length : Int)
      ·
       rw [if_pos c15] at H
       have c15b0 : decide (0 < (t186.length : Int)) = true := decide_eq_true c15
       have c15b1 : decide (0 < t186.length) = true := decide_eq_true (by omega)
       clear c15
       obtain rfl := Option.some.inj H
       obtain ⟨Ao16, co16, eo16⟩ := Kd.N_slice HO_1.out
       subst eo16
       go_wp2_with (first | ((with_reducible refine gate_callee (f := 18) rfl ?_); refine goesL_ (some 23) rfl rfl Try.func18 (by kernel_rfl) rfl #[.slice Ao16 x1_1.length co16, .int .i64 3] rfl (by (try simp only [List.map_toArray, List.map_cons, List.map_nil]); first | done | rfl | (simp only [List.length_drop, List.length_take]; rfl)) ?_; (with_reducible refine (batch_Cut.calls k1 _ _ x1_1 3 t185 t186 _ ?side1 ?side2 A12.out).mono ?_); (case side1 => exact Ext.nC (Kd.N_reads' HO_1.out).2.2); (case side2 => exact (Kd.N_reads' HO_1.out).2.1); rintro e w17 ⟨v187, v189, rfl, ho0, ho1, hb⟩; refine ⟨_, rfl, ?_⟩; have n0_ := Ext.a (Kd.N_mono (Kd.N_told (Kd.N_told (Kd.N_old (Ext.nN HO_1.out) hb) (Kd.S_base ho0)) (Kd.S_base ho1)) (fun _ h_ => h_.1)); have n1_ := Ext.a (Kd.R_below (Ext.nR HO_6.out) hb); have n2_ := Ext.a (Kd.N_lower (Kd.N_mono (ok' := fun k_ => some k_ ≠ (v189 : Value).ownBlock ∧ some k_ ≠ (.slice Ao16 x1_1.length co16 : Value).ownBlock ∧ some k_ ≠ (.slice Ao3 y175.length co3 : Value).ownBlock) (Kd.S_N (Kd.S_bound ho0)) (fun k_ hk_ => ⟨hk_.1, (Kd.fresh' (Kd.N_lt (Ext.nN HO_1.out)) k_ hk_.2.1), (Kd.fresh' (Kd.R_lt (Ext.nR HO_6.out)) k_ hk_.2.1)⟩)) (below_size (Ext.nB HB.out))); have n3_ := Ext.a (Kd.N_lower (Kd.N_mono (ok' := fun k_ => some k_ ≠ (v187 : Value).ownBlock ∧ some k_ ≠ (.slice Ao16 x1_1.length co16 : Value).ownBlock ∧ some k_ ≠ (.slice Ao3 y175.length co3 : Value).ownBlock) (Kd.S_N (Kd.S_bound ho1)) (fun k_ hk_ => ⟨hk_.1, (Kd.fresh' (Kd.N_lt (Ext.nN HO_1.out)) k_ hk_.2.1), (Kd.fresh' (Kd.R_lt (Ext.nR HO_6.out)) k_ hk_.2.1)⟩)) (below_size (Ext.nB HB.out))); have n4_ := Ext.a (below_step (Ext.nB HB.out) hb); clear HO_1 HO_6 HB; have HO_1 := n0_; have HO_6 := n1_; have HO188 := n2_; have HO190 := n3_; have HB := n4_; clear n0_ n1_ n2_ n3_ n4_; (try clear hb); (try clear hb2); (try clear hk); (try clear hi); (try clear ho0); (try clear ho1); obtain ⟨Ao18, co18, eo18⟩ := Kd.N_slice HO188.out; subst eo18; obtain ⟨Ao19, co19, eo19⟩ := Kd.N_slice HO190.out; subst eo19; have p191 : 0 ≤ (0 : Int) := (by omega); have q191 : 0 < (t186.length : Int) := of_decide_eq_true (by first | (with_reducible assumption) | assumption); obtain ⟨ad191, A191_1, c191_1, A191_2, c191_2, A191_8, c191_8, A191_9, c191_9, e191, hx191_0, hx191_1, hx191_2, hx191_3, hx191_4, hx191_5, hx191_6, hx191_7, hx191_8, hx191_9, hx191_10, hx191_11, hx191_12, hx191_13, hl191_1, hi191_1, hl191_2, hi191_2, hl191_8, hi191_8, hl191_9, hi191_9⟩ := at_T38 (Kd.N_reads' HO190.out).2.2 0 p191 q191; cases e191; obtain ⟨ce191, hce191, hMe191, hcc191⟩ := Kd.N_get HO190.out z38 0 p191 (by first | exact q191 | exact of_decide_eq_true (by first | (with_reducible assumption) | assumption) | (have e_ := (Kd.N_reads' HO190.out).1; omega)); obtain ⟨ua191_1, uc191_1, ua191_2, uc191_2, ua191_8, uc191_8, ua191_9, uc191_9, rfl, ul191_1, ge191_1, ul191_2, ge191_2, ul191_8, ge191_8, ul191_9, ge191_9⟩ := k38_openF hMe191; have hv191_1 := hcc191 1 _ rfl; rw [add_field _ _ 1 (by omega)] at hv191_1; replace hv191_1 := Option.some.inj (hv191_1.symm.trans hx191_1); injection hv191_1 with hva_ hvn_ hvc_; rw [hva_] at ge191_1; rw [hvc_] at ul191_1; have HL191_1 := Ext.a (show Kd.V (Kd.int .u8) 5 _ w.heap.size _ _ ((rd_T38 t186 0).f1.f0) from Kd.V_mk ul191_1 ge191_1); clear hva_ hvn_ hvc_ ge191_1 ul191_1; have hv191_2 := hcc191 2 _ rfl; rw [add_field _ _ 2 (by omega)] at hv191_2; replace hv191_2 := Option.some.inj (hv191_2.symm.trans hx191_2); injection hv191_2 with hva_ hvn_ hvc_; rw [hva_] at ge191_2; rw [hvc_] at ul191_2; have HL191_2 := Ext.a (show Kd.V (Kd.int .u8) 5 _ w.heap.size _ _ ((rd_T38 t186 0).f1.f1) from Kd.V_mk ul191_2 ge191_2); clear hva_ hvn_ hvc_ ge191_2 ul191_2; have hv191_8 := hcc191 8 _ rfl; rw [add_field _ _ 8 (by omega)] at hv191_8; replace hv191_8 := Option.some.inj (hv191_8.symm.trans hx191_8); injection hv191_8 with hva_ hvn_ hvc_; rw [hva_] at ge191_8; rw [hvc_] at ul191_8; have HL191_8 := Ext.a (show Kd.V (Kd.int .u8) 5 _ w.heap.size _ _ ((rd_T38 t186 0).f3.f0) from Kd.V_mk ul191_8 ge191_8); clear hva_ hvn_ hvc_ ge191_8 ul191_8; have hv191_9 := hcc191 9 _ rfl; rw [add_field _ _ 9 (by omega)] at hv191_9; replace hv191_9 := Option.some.inj (hv191_9.symm.trans hx191_9); injection hv191_9 with hva_ hvn_ hvc_; rw [hva_] at ge191_9; rw [hvc_] at ul191_9; have HL191_9 := Ext.a (show Kd.V (Kd.int .u8) 5 _ w.heap.size _ _ ((rd_T38 t186 0).f3.f1) from Kd.V_mk ul191_9 ge191_9); clear hva_ hvn_ hvc_ ge191_9 ul191_9; clear hcc191 hce191; have qi191 : (0 < t186.length) = True := eq_true (by omega); (try rw [show ((0 : Int)).toNat = 0 from rfl] at hx191_0); (try rw [show 0 * 14 = 0 from rfl] at hx191_0); (try rw [Addr.add_zero'] at hx191_0); (try rw [show ((0 : Int)).toNat = 0 from rfl] at hx191_1); (try rw [show 0 * 14 = 0 from rfl] at hx191_1); (try rw [Addr.add_zero'] at hx191_1); (try rw [show ((0 : Int)).toNat = 0 from rfl] at hx191_2); (try rw [show 0 * 14 = 0 from rfl] at hx191_2); (try rw [Addr.add_zero'] at hx191_2); (try rw [show ((0 : Int)).toNat = 0 from rfl] at hx191_3); (try rw [show 0 * 14 = 0 from rfl] at hx191_3); (try rw [Addr.add_zero'] at hx191_3); (try rw [show ((0 : Int)).toNat = 0 from rfl] at hx191_4); (try rw [show 0 * 14 = 0 from rfl] at hx191_4); (try rw [Addr.add_zero'] at hx191_4); (try rw [show ((0 : Int)).toNat = 0 from rfl] at hx191_5); (try rw [show 0 * 14 = 0 from rfl] at hx191_5); (try rw [Addr.add_zero'] at hx191_5); (try rw [show ((0 : Int)).toNat = 0 from rfl] at hx191_6); (try rw [show 0 * 14 = 0 from rfl] at hx191_6); (try rw [Addr.add_zero'] at hx191_6); (try rw [show ((0 : Int)).toNat = 0 from rfl] at hx191_7); (try rw [show 0 * 14 = 0 from rfl] at hx191_7); (try rw [Addr.add_zero'] at hx191_7); (try rw [show ((0 : Int)).toNat = 0 from rfl] at hx191_8); (try rw [show 0 * 14 = 0 from rfl] at hx191_8); (try rw [Addr.add_zero'] at hx191_8); (try rw [show ((0 : Int)).toNat = 0 from rfl] at hx191_9); (try rw [show 0 * 14 = 0 from rfl] at hx191_9); (try rw [Addr.add_zero'] at hx191_9); (try rw [show ((0 : Int)).toNat = 0 from rfl] at hx191_10); (try rw [show 0 * 14 = 0 from rfl] at hx191_10); (try rw [Addr.add_zero'] at hx191_10); (try rw [show ((0 : Int)).toNat = 0 from rfl] at hx191_11); (try rw [show 0 * 14 = 0 from rfl] at hx191_11); (try rw [Addr.add_zero'] at hx191_11); (try rw [show ((0 : Int)).toNat = 0 from rfl] at hx191_12); (try rw [show 0 * 14 = 0 from rfl] at hx191_12); (try rw [Addr.add_zero'] at hx191_12); (try rw [show ((0 : Int)).toNat = 0 from rfl] at hx191_13); (try rw [show 0 * 14 = 0 from rfl] at hx191_13); (try rw [Addr.add_zero'] at hx191_13); have HR191_1 := Aside0.mk hi191_1; have HC191_1 := Aside0.mk hl191_1; clear hi191_1 hl191_1; have HR191_2 := Aside0.mk hi191_2; have HC191_2 := Aside0.mk hl191_2; clear hi191_2 hl191_2; have HR191_8 := Aside0.mk hi191_8; have HC191_8 := Aside0.mk hl191_8; clear hi191_8 hl191_8; have HR191_9 := Aside0.mk hi191_9; have HC191_9 := Aside0.mk hl191_9; clear hi191_9 hl191_9; replace p191 := eq_true p191; replace q191 := eq_true q191))
       go_ret
       exact ⟨by first | rfl | (simp [errW_none, errW_some] <;> rfl) | (simp [*, errW_none, errW_some] <;> rfl), by repeat (first | (with_reducible first | exact HB.out | apply Ext.ba | apply Ext.bn | apply Ext.bd) | exact HB.out | exact .refl _ _)⟩
      · rw [if_neg c15] at H; exact absurd H (by simp)
     ·
      rw [if_neg c14] at H
      have c14b0 : ((t186.length : Int) == 1) = false := beq_eq_false_iff_ne.mpr c14
      have c14b1 : ((t186.length : Int) != 1) = true := bne_iff_ne.mpr c14
      obtain rfl := Option.some.inj H
      obtain ⟨Ao20, co20, eo20⟩ := Kd.N_slice HO_1.out
      subst eo20
      go_wp2_with (first | ((with_reducible refine gate_callee (f := 18) rfl ?_); refine goesL_ (some 23) rfl rfl Try.func18 (by kernel_rfl) rfl #[.slice Ao20 x1_1.length co20, .int .i64 3] rfl (by (try simp only [List.map_toArray, List.map_cons, List.map_nil]); first | done | rfl | (simp only [List.length_drop, List.length_take]; rfl)) ?_; (with_reducible refine (batch_Cut.calls k1 _ _ x1_1 3 t185 t186 _ ?side1 ?side2 A12.out).mono ?_); (case side1 => exact Ext.nC (Kd.N_reads' HO_1.out).2.2); (case side2 => exact (Kd.N_reads' HO_1.out).2.1); rintro e w21 ⟨v187, v189, rfl, ho0, ho1, hb⟩; refine ⟨_, rfl, ?_⟩; have n0_ := Ext.a (Kd.N_mono (Kd.N_told (Kd.N_told (Kd.N_old (Ext.nN HO_1.out) hb) (Kd.S_base ho0)) (Kd.S_base ho1)) (fun _ h_ => h_.1)); have n1_ := Ext.a (Kd.R_below (Ext.nR HO_6.out) hb); have n2_ := Ext.a (Kd.N_lower (Kd.N_mono (ok' := fun k_ => some k_ ≠ (v189 : Value).ownBlock ∧ some k_ ≠ (.slice Ao20 x1_1.length co20 : Value).ownBlock ∧ some k_ ≠ (.slice Ao3 y175.length co3 : Value).ownBlock) (Kd.S_N (Kd.S_bound ho0)) (fun k_ hk_ => ⟨hk_.1, (Kd.fresh' (Kd.N_lt (Ext.nN HO_1.out)) k_ hk_.2.1), (Kd.fresh' (Kd.R_lt (Ext.nR HO_6.out)) k_ hk_.2.1)⟩)) (below_size (Ext.nB HB.out))); have n3_ := Ext.a (Kd.N_lower (Kd.N_mono (ok' := fun k_ => some k_ ≠ (v187 : Value).ownBlock ∧ some k_ ≠ (.slice Ao20 x1_1.length co20 : Value).ownBlock ∧ some k_ ≠ (.slice Ao3 y175.length co3 : Value).ownBlock) (Kd.S_N (Kd.S_bound ho1)) (fun k_ hk_ => ⟨hk_.1, (Kd.fresh' (Kd.N_lt (Ext.nN HO_1.out)) k_ hk_.2.1), (Kd.fresh' (Kd.R_lt (Ext.nR HO_6.out)) k_ hk_.2.1)⟩)) (below_size (Ext.nB HB.out))); have n4_ := Ext.a (below_step (Ext.nB HB.out) hb); clear HO_1 HO_6 HB; have HO_1 := n0_; have HO_6 := n1_; have HO188 := n2_; have HO190 := n3_; have HB := n4_; clear n0_ n1_ n2_ n3_ n4_; (try clear hb); (try clear hb2); (try clear hk); (try clear hi); (try clear ho0); (try clear ho1); obtain ⟨Ao22, co22, eo22⟩ := Kd.N_slice HO188.out; subst eo22; obtain ⟨Ao23, co23, eo23⟩ := Kd.N_slice HO190.out; subst eo23))
      go_ret
      exact ⟨by first | rfl | (simp [errW_none, errW_some] <;> rfl) | (simp [*, errW_none, errW_some] <;> rfl), by repeat (first | (with_reducible first | exact HB.out | apply Ext.ba | apply Ext.bn | apply Ext.bd) | exact HB.out | exact .refl _ _)⟩
    ·
     rw [if_neg c13] at H
     have c13b0 : ((t185.length : Int) == 3) = false := beq_eq_false_iff_ne.mpr c13
     have c13b1 : ((t185.length : Int) != 3) = true := bne_iff_ne.mpr c13
     obtain rfl := Option.some.inj H
     obtain ⟨Ao24, co24, eo24⟩ := Kd.N_slice HO_1.out
     subst eo24
     go_wp2_with (first | ((with_reducible refine gate_callee (f := 18) rfl ?_); refine goesL_ (some 23) rfl rfl Try.func18 (by kernel_rfl) rfl #[.slice Ao24 x1_1.length co24, .int .i64 3] rfl (by (try simp only [List.map_toArray, List.map_cons, List.map_nil]); first | done | rfl | (simp only [List.length_drop, List.length_take]; rfl)) ?_; (with_reducible refine (batch_Cut.calls k1 _ _ x1_1 3 t185 t186 _ ?side1 ?side2 A12.out).mono ?_); (case side1 => exact Ext.nC (Kd.N_reads' HO_1.out).2.2); (case side2 => exact (Kd.N_reads' HO_1.out).2.1); rintro e w25 ⟨v187, v189, rfl, ho0, ho1, hb⟩; refine ⟨_, rfl, ?_⟩; have n0_ := Ext.a (Kd.N_mono (Kd.N_told (Kd.N_told (Kd.N_old (Ext.nN HO_1.out) hb) (Kd.S_base ho0)) (Kd.S_base ho1)) (fun _ h_ => h_.1)); have n1_ := Ext.a (Kd.R_below (Ext.nR HO_6.out) hb); have n2_ := Ext.a (Kd.N_lower (Kd.N_mono (ok' := fun k_ => some k_ ≠ (v189 : Value).ownBlock ∧ some k_ ≠ (.slice Ao24 x1_1.length co24 : Value).ownBlock ∧ some k_ ≠ (.slice Ao3 y175.length co3 : Value).ownBlock) (Kd.S_N (Kd.S_bound ho0)) (fun k_ hk_ => ⟨hk_.1, (Kd.fresh' (Kd.N_lt (Ext.nN HO_1.out)) k_ hk_.2.1), (Kd.fresh' (Kd.R_lt (Ext.nR HO_6.out)) k_ hk_.2.1)⟩)) (below_size (Ext.nB HB.out))); have n3_ := Ext.a (Kd.N_lower (Kd.N_mono (ok' := fun k_ => some k_ ≠ (v187 : Value).ownBlock ∧ some k_ ≠ (.slice Ao24 x1_1.length co24 : Value).ownBlock ∧ some k_ ≠ (.slice Ao3 y175.length co3 : Value).ownBlock) (Kd.S_N (Kd.S_bound ho1)) (fun k_ hk_ => ⟨hk_.1, (Kd.fresh' (Kd.N_lt (Ext.nN HO_1.out)) k_ hk_.2.1), (Kd.fresh' (Kd.R_lt (Ext.nR HO_6.out)) k_ hk_.2.1)⟩)) (below_size (Ext.nB HB.out))); have n4_ := Ext.a (below_step (Ext.nB HB.out) hb); clear HO_1 HO_6 HB; have HO_1 := n0_; have HO_6 := n1_; have HO188 := n2_; have HO190 := n3_; have HB := n4_; clear n0_ n1_ n2_ n3_ n4_; (try clear hb); (try clear hb2); (try clear hk); (try clear hi); (try clear ho0); (try clear ho1); obtain ⟨Ao26, co26, eo26⟩ := Kd.N_slice HO188.out; subst eo26))
     go_ret
     exact ⟨by first | rfl | (simp [errW_none, errW_some] <;> rfl) | (simp [*, errW_none, errW_some] <;> rfl), by repeat (first | (with_reducible first | exact HB.out | apply Ext.ba | apply Ext.bn | apply Ext.bd) | exact HB.out | exact .refl _ _)⟩

end Go.Proofs.Ytdakdlgkhnjhoaa.PW
