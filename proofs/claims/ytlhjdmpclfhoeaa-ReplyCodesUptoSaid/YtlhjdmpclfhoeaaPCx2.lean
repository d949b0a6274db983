-- Written by wip/printx.py, a program of this work over the kit's print, for this claim.
import Derived.Test.YtlhjdmpclfhoeaaPCx0
import Derived.Test.YtlhjdmpclfhoeaaPCx1
namespace Go.Proofs.Ytlhjdmpclfhoeaa.PC
open Go.RowKit Go.Proofs.YtlhjdmpclfhoeaaW.PrintWords Go.Proofs.YtlhjdmpclfhoeaaW.PrintLast Go.Proofs.YtlhjdmpclfhoeaaW.PrintMore
attribute [local go_sem] max2_int min2_int max_two min_two max_three min_three max_four min_four   -- for this text's walks alone
attribute [local go_sem] Ext.pick_u8 Ext.pick_u32 Ext.pick_u64
set_option linter.unusedVariables false
set_option linter.unusedSimpArgs false



/-! ### octets_Put: function 62 -/
mutual
def octets_Put.j0 : Nat → Int → Int → Bool → Option (List Int × Int)
 | 0, _, _, _ => none
 | k + 1, x0, x1, x13 => if x13 = true then (some (([] : List Int), 1)) else (if x1 < 8 then (if 0 ≤ (wrap64 (8 * x1)) then (octets_Put.j1 k x0 x1 ((shr .u64 x0 (wrap64 (8 * x1))) != 0)) else (none)) else (octets_Put.j1 k x0 x1 false))
def octets_Put.j1 : Nat → Int → Int → Bool → Option (List Int × Int)
 | 0, _, _, _ => none
 | k + 1, x0, x1, x22 => if x22 = true then (some (([] : List Int), 2)) else (if 0 ≤ x1 then (if (x1 : Int).toNat ≤ 281474976710656 then (octets_Put.l0 k x0 x1 (List.replicate (x1 : Int).toNat 0) x1 0) else (none)) else (none))
def octets_Put.l0 : Nat → Int → Int → List Int → Int → Int → Option (List Int × Int)
 | 0, _, _, _, _, _ => none
 | k + 1, x0, x1, x6, x25, x26 => if x26 < x25 then (if 0 ≤ (wrap64 (8 * x26)) then (if 0 ≤ (wrap64 ((wrap64 (x1 - 1)) - x26)) then (if (wrap64 ((wrap64 (x1 - 1)) - x26)) < (x6.length : Int) then (octets_Put.l0 k x0 x1 (x6.set ((wrap64 ((wrap64 (x1 - 1)) - x26)) : Int).toNat ((shr .u64 x0 (wrap64 (8 * x26))) % 256)) x25 (wrap64 (x26 + 1))) else (none)) else (none)) else (none)) else (some (x6, 0))
end
def octets_Put.f (k : Nat) (a0 : Int) (a1 : Int) : Option (List Int × Int) := if a1 < 1 then (octets_Put.j0 k a0 a1 true) else (octets_Put.j0 k a0 a1 (decide (a1 > 8)))
theorem octets_Put.mono_l : ∀ k, (∀ y0 y1 y2, LeO (octets_Put.j0 k y0 y1 y2) (octets_Put.j0 (k + 1) y0 y1 y2)) ∧ (∀ y0 y1 y2, LeO (octets_Put.j1 k y0 y1 y2) (octets_Put.j1 (k + 1) y0 y1 y2)) ∧ (∀ y0 y1 y2 y3 y4, LeO (octets_Put.l0 k y0 y1 y2 y3 y4) (octets_Put.l0 (k + 1) y0 y1 y2 y3 y4))
 | 0 => ⟨fun _ _ _ r h => by simp [octets_Put.j0] at h, fun _ _ _ r h => by simp [octets_Put.j1] at h, fun _ _ _ _ _ r h => by simp [octets_Put.l0] at h⟩
 | k + 1 => by
  obtain ⟨ih0, ih1, ih2⟩ := octets_Put.mono_l k; refine ⟨?_, ?_, ?_⟩
  ·
   intro y0 y1 y2
   unfold octets_Put.j0
   repeat' first
   | (with_reducible exact ih0 _ _ _)
   | (with_reducible exact ih1 _ _ _)
   | (with_reducible exact ih2 _ _ _ _ _)
   | (with_reducible exact LeO.refl _)
   | (with_reducible exact LeO.none _)
   | (with_reducible refine LeO.ite ?_ ?_)
   | (with_reducible refine LeO.bind ?_ (fun _ => ?_))
   | exact ih0 _ _ _
   | exact ih1 _ _ _
   | exact ih2 _ _ _ _ _
   | exact LeO.none _
   | refine LeO.ite ?_ ?_
   | refine LeO.bind ?_ (fun _ => ?_)
  ·
   intro y0 y1 y2
   unfold octets_Put.j1
   repeat' first
   | (with_reducible exact ih0 _ _ _)
   | (with_reducible exact ih1 _ _ _)
   | (with_reducible exact ih2 _ _ _ _ _)
   | (with_reducible exact LeO.refl _)
   | (with_reducible exact LeO.none _)
   | (with_reducible refine LeO.ite ?_ ?_)
   | (with_reducible refine LeO.bind ?_ (fun _ => ?_))
   | exact ih0 _ _ _
   | exact ih1 _ _ _
   | exact ih2 _ _ _ _ _
   | exact LeO.none _
   | refine LeO.ite ?_ ?_
   | refine LeO.bind ?_ (fun _ => ?_)
  ·
   intro y0 y1 y2 y3 y4
   unfold octets_Put.l0
   repeat' first
   | (with_reducible exact ih0 _ _ _)
   | (with_reducible exact ih1 _ _ _)
   | (with_reducible exact ih2 _ _ _ _ _)
   | (with_reducible exact LeO.refl _)
   | (with_reducible exact LeO.none _)
   | (with_reducible refine LeO.ite ?_ ?_)
   | (with_reducible refine LeO.bind ?_ (fun _ => ?_))
   | exact ih0 _ _ _
   | exact ih1 _ _ _
   | exact ih2 _ _ _ _ _
   | exact LeO.none _
   | refine LeO.ite ?_ ?_
   | refine LeO.bind ?_ (fun _ => ?_)
theorem octets_Put.mono : ∀ a0 a1 k, LeO (octets_Put.f k a0 a1) (octets_Put.f (k + 1) a0 a1) := by
 intro a0 a1 k
 obtain ⟨ih0, ih1, ih2⟩ := octets_Put.mono_l k; unfold octets_Put.f
 repeat' first
   | (with_reducible exact ih0 _ _ _)
   | (with_reducible exact ih1 _ _ _)
   | (with_reducible exact ih2 _ _ _ _ _)
   | (with_reducible exact LeO.refl _)
   | (with_reducible exact LeO.none _)
   | (with_reducible refine LeO.ite ?_ ?_)
   | (with_reducible refine LeO.bind ?_ (fun _ => ?_))
   | exact ih0 _ _ _
   | exact ih1 _ _ _
   | exact ih2 _ _ _ _ _
   | exact LeO.none _
   | refine LeO.ite ?_ ?_
   | refine LeO.bind ?_ (fun _ => ?_)
set_option maxHeartbeats 8000000 in
set_option maxRecDepth 100000 in
theorem octets_Put.calls (k : Nat) (a0 : Int) (a1 : Int) (r1 : List Int) (r2 : Int) (w : World) (h : octets_Put.f k a0 a1 = some (r1, r2)) :
  Calls Try.prog 62 #[.int .u64 a0, .int .i64 a1] w fun e w' => ∃ v0_ : Value, e = .returned (.tuple #[v0_, .int .i64 r2]) ∧ Kd.R (Kd.int .u8) 5 w' w.heap.size (fun _ => True) v0_ r1 ∧ Below w.heap.size w w' := by
 have HB := Ext.a (Below.refl w.heap.size w); have H := h; unfold octets_Put.f at H; clear h; have HC3 := Aside0.mk H; clear H
 go_enter Try.func62, Try.ntmps62
 go_upto_region 1 with (fail)
 go_cut [13] (fun v13 wc => ∃ (kq : Nat) (x13_2 : Bool), v13 = .bool x13_2 ∧ Aside0 (octets_Put.j0 kq a0 a1 x13_2 = some (r1, r2)) ∧ Aside0 (kq ≤ k) ∧ Aside0 (Below w.heap.size w wc))
 case first =>
  have H := HC3.out; clear HC3
  by_cases c4 : a1 < 1
  case' _ =>
   rw [if_pos c4] at H; have c4b0 := decide_eq_true c4; clear c4
   (first | rw [c4b0] | (simp only [i64_w, i32_w]; rw [c4b0]) | skip)
  rotate_left 1
  case' _ =>
   rw [if_neg c4] at H; have c4b0 := decide_eq_false c4; clear c4
   (first | rw [c4b0] | (simp only [i64_w, i32_w]; rw [c4b0]) | skip)
  all_goals (have H' := Aside0.mk H; clear H; go_wp2; go_meet; (case rel => exact ⟨_, _, (by first | rfl | (simp; done) | (simp [*]; done)), H', ⟨by first | omega | exact Nat.le_refl _⟩, ⟨by exact Ext.nB HB.out⟩⟩))
 case rest =>
  clear HC3; (try clear p2 c4b0); obtain ⟨kq, x13_2, rfl, HA, HJ2, HB⟩ := hcut; cases kq with
  | zero => exact absurd HA.out (by simp [octets_Put.j0])
  | succ kj2 =>
   have H := HA.out; clear HA; simp only [octets_Put.j0] at H
   by_cases c5 : x13_2 = true
   ·
    subst c5; rw [if_pos rfl] at H; simp only [Option.some.injEq, Prod.mk.injEq] at H; obtain ⟨rfl, rfl⟩ := H
    go_wp2
    go_ret2
    exact ⟨_, by first | rfl | (simp [errW_none, errW_some] <;> rfl) | (simp [*, errW_none, errW_some] <;> rfl), by first | exact Ext.nl | exact Kd.R_nil _ _ _ _ _, by exact Ext.nB HB.out⟩
   ·
    replace c5 := Bool.eq_false_iff.mpr c5; subst c5; rw [if_neg Bool.false_ne_true] at H; have HC6 := Aside0.mk H; clear H
    go_upto_region 3 with (fail)
    go_cut [22] (fun v22 wc => ∃ (kq : Nat) (x22_5 : Bool), v22 = .bool x22_5 ∧ Aside0 (octets_Put.j1 kq a0 a1 x22_5 = some (r1, r2)) ∧ Aside0 (kq ≤ kj2) ∧ Aside0 (Below w.heap.size w wc))
    case first =>
     have H := HC6.out; clear HC6
     by_cases c7 : a1 < 8
     ·
      rw [if_pos c7] at H; have c7b0 := decide_eq_true c7; clear c7
      (first | rw [c7b0] | (simp only [i64_w, i32_w]; rw [c7b0]) | skip)
      obtain ⟨ji8, hji8⟩ : ∃ j_ : Int, (wrap64 (8 * a1)) = j_ := ⟨_, rfl⟩
      replace H : (if 0 ≤ (ji8) then (octets_Put.j1 kj2 a0 a1 ((shr .u64 a0 (ji8)) != 0)) else (none)) = some (r1, r2) := by first | (rw [hji8] at H; exact H) | (simp only [hji8] at H ⊢; exact H)
      have hji8w : (IntKind.i64.wrap (8 * a1)) = ji8 := (i64_w _).trans hji8
      by_cases c9 : 0 ≤ (ji8)
      ·
       rw [if_pos c9] at H; have c9b0 := eq_true c9; have c9b1 := decide_eq_true c9; clear c9; obtain ⟨ji10, hji10⟩ : ∃ j_ : Int, (shr .u64 a0 (ji8)) = j_ := ⟨_, rfl⟩
       replace H : (octets_Put.j1 kj2 a0 a1 ((ji10) != 0)) = some (r1, r2) := by first | (rw [hji10] at H; exact H) | (simp only [hji10] at H ⊢; exact H)
       have hji10_ : (a0 / 2 ^ min (ji8).toNat 64) = ji10 := hji10; have hji10z : (ji8) ≤ 64 → (a0 / 2 ^ (ji8).toNat) = ji10 := shr_small hji10; have H' := Aside0.mk H; clear H
       go_wp2
       go_meet
       case rel => exact ⟨_, (((ji10) != 0)), (by first | rfl | (simp; done) | (simp only [← hji10] <;> (first | rfl | simp)) | (simp [*]; done)), H', ⟨by have := HJ2.out; first | omega | exact Nat.le_refl _⟩, ⟨by exact Ext.nB HB.out⟩⟩
      · rw [if_neg c9] at H; exact absurd H (by simp)
     ·
      rw [if_neg c7] at H; have c7b0 := decide_eq_false c7; clear c7
      (first | rw [c7b0] | (simp only [i64_w, i32_w]; rw [c7b0]) | skip)
      have H' := Aside0.mk H; clear H
      go_wp2
      go_meet
      case rel => exact ⟨_, (false), (by first | rfl | (simp; done) | (simp [*]; done)), H', ⟨by have := HJ2.out; first | omega | exact Nat.le_refl _⟩, ⟨by exact Ext.nB HB.out⟩⟩
    case rest =>
     clear HC6; (try clear c6 p6 c7b0 c9b0 c9b1); obtain ⟨kq, x22_5, rfl, HA, HJ5, HB⟩ := hcut; cases kq with
     | zero => exact absurd HA.out (by simp [octets_Put.j1])
     | succ kj5 =>
      have H := HA.out; clear HA; simp only [octets_Put.j1] at H
      by_cases c11 : x22_5 = true
      ·
       subst c11; rw [if_pos rfl] at H; simp only [Option.some.injEq, Prod.mk.injEq] at H; obtain ⟨rfl, rfl⟩ := H
       go_wp2
       go_ret2
       exact ⟨_, by first | rfl | (simp [errW_none, errW_some] <;> rfl) | (simp [*, errW_none, errW_some] <;> rfl), by first | exact Ext.nl | exact Kd.R_nil _ _ _ _ _, by exact Ext.nB HB.out⟩
      ·
       replace c11 := Bool.eq_false_iff.mpr c11; subst c11; rw [if_neg Bool.false_ne_true] at H
       by_cases c12 : 0 ≤ a1
       ·
        rw [if_pos c12] at H; have c12b0 := eq_true c12; have c12b1 := decide_eq_true c12; clear c12
        by_cases c13 : (a1 : Int).toNat ≤ 281474976710656
        ·
         rw [if_pos c13] at H; have c13b0 := eq_true c13; have c13b1 := decide_eq_true c13; clear c13; obtain ⟨y116, hy116⟩ : ∃ y_ : List Int, y_ = (List.replicate (a1 : Int).toNat 0) := ⟨_, rfl⟩
         replace H : (octets_Put.l0 kj5 a0 a1 y116 a1 0) = some (r1, r2) := by first | (rw [hy116]; with_reducible exact H) | (have H2_ := (Option.bind_some _ _).symm.trans H; rw [hy116]; with_reducible exact H2_) | (have H2_ := (Option.bind_some _ _).symm.trans H; with_reducible exact H2_) | with_reducible exact H | (rw [hy116]; exact H) | exact H
         have Ny116 := Aside0.mk hy116; clear hy116; have H' := Aside0.mk H; clear H
         go_wp2_with (first | ((with_reducible refine gate_dst (N := 24) rfl ?_); refine Kd.R_make (Kd.int .u8) _ 5 rfl (N := 24) rfl 36 _ _ rfl a1 rfl rfl Try.underlying36 (.int .u8 0) 1 info5 rfl (by decide) (by omega) 0 (ok := fun _ => True) (okp := fun _ => True) rfl (fun _ hk => hk) trivial (of_decide_eq_true (by first | (with_reducible assumption) | assumption)) (Nat.le_trans (Nat.mul_le_mul_right _ (of_decide_eq_true (by first | (with_reducible assumption) | assumption) : a1.toNat ≤ 281474976710656)) (by omega)) (Below.refl _ _) (Nat.le_refl _) ?_; intro v117 w14 ho15 hb hg_ hnew_; clear hg_ hnew_; (first | rw [← Ny116.out] at ho15 | (simp only [Int.reduceToNat] at ho15; rw [← Ny116.out] at ho15)); have HO118 := Ext.a (Kd.R_lower ho15 (below_size (Ext.nB HB.out))); replace HB := Ext.a (below_step (Ext.nB HB.out) hb); clear hb ho15))
         go_loopg [26] kj5 (fun kq v26 w' => ∃ (x6_3 : List Int) (x26_3 : Int), v26 = .int .i64 x26_3 ∧ Aside0 (octets_Put.l0 kq a0 a1 x6_3 a1 x26_3 = some (r1, r2)) ∧ Aside0 (kq ≤ kj5) ∧ Aside0 (Kd.R (Kd.int .u8) 5 w' w.heap.size (fun _ => True) v117 x6_3) ∧ Aside0 (Below w.heap.size w w'))
         case atStart => exact ⟨(y116), (0), (by first | rfl | (simp; done) | (simp [*]; done)), H', ⟨Nat.le_refl _⟩, ⟨by exact Ext.nR HO118.out⟩, ⟨by exact Ext.nB HB.out⟩⟩
         case round =>
          clear H'; (try clear c1 c12b0 c12b1 c13b0 c13b1); obtain ⟨x6_3, x26_3, rfl, HA, HK3, HO_6, HB⟩ := hrel; cases gk with
          | zero => exact absurd HA.out (by simp [octets_Put.l0])
          | succ k3 =>
           have H := HA.out; clear HA; simp only [octets_Put.l0] at H
           by_cases c16 : x26_3 < a1
           ·
            rw [if_pos c16] at H; have c16b0 := decide_eq_true c16; clear c16; obtain ⟨ji17, hji17⟩ : ∃ j_ : Int, (wrap64 (8 * x26_3)) = j_ := ⟨_, rfl⟩
            replace H : (if 0 ≤ (ji17) then (if 0 ≤ (wrap64 ((wrap64 (a1 - 1)) - x26_3)) then (if (wrap64 ((wrap64 (a1 - 1)) - x26_3)) < (x6_3.length : Int) then (octets_Put.l0 k3 a0 a1 (x6_3.set ((wrap64 ((wrap64 (a1 - 1)) - x26_3)) : Int).toNat ((shr .u64 a0 (ji17)) % 256)) a1 (wrap64 (x26_3 + 1))) else (none)) else (none)) else (none)) = some (r1, r2) := by first | (rw [hji17] at H; exact H) | (simp only [hji17] at H ⊢; exact H)
            have hji17w : (IntKind.i64.wrap (8 * x26_3)) = ji17 := (i64_w _).trans hji17
            by_cases c18 : 0 ≤ (ji17)
            ·
             rw [if_pos c18] at H; have c18b0 := eq_true c18; have c18b1 := decide_eq_true c18; clear c18; obtain ⟨ji19, hji19⟩ : ∃ j_ : Int, (shr .u64 a0 (ji17)) = j_ := ⟨_, rfl⟩
             replace H : (if 0 ≤ (wrap64 ((wrap64 (a1 - 1)) - x26_3)) then (if (wrap64 ((wrap64 (a1 - 1)) - x26_3)) < (x6_3.length : Int) then (octets_Put.l0 k3 a0 a1 (x6_3.set ((wrap64 ((wrap64 (a1 - 1)) - x26_3)) : Int).toNat ((ji19) % 256)) a1 (wrap64 (x26_3 + 1))) else (none)) else (none)) = some (r1, r2) := by first | (rw [hji19] at H; exact H) | (simp only [hji19] at H ⊢; exact H)
             have hji19_ : (a0 / 2 ^ min (ji17).toNat 64) = ji19 := hji19; have hji19z : (ji17) ≤ 64 → (a0 / 2 ^ (ji17).toNat) = ji19 := shr_small hji19; obtain ⟨ji20, hji20⟩ : ∃ j_ : Int, (wrap64 ((wrap64 (a1 - 1)) - x26_3)) = j_ := ⟨_, rfl⟩
             replace H : (if 0 ≤ (ji20) then (if (ji20) < (x6_3.length : Int) then (octets_Put.l0 k3 a0 a1 (x6_3.set ((ji20) : Int).toNat ((ji19) % 256)) a1 (wrap64 (x26_3 + 1))) else (none)) else (none)) = some (r1, r2) := by first | (rw [hji20] at H; exact H) | (simp only [hji20] at H ⊢; exact H)
             have hji20w : (IntKind.i64.wrap ((wrap64 (a1 - 1)) - x26_3)) = ji20 := (i64_w _).trans hji20
             by_cases c21 : 0 ≤ (ji20)
             ·
              rw [if_pos c21] at H; have c21b0 := decide_eq_true c21; clear c21
              by_cases c22 : (ji20) < (x6_3.length : Int)
              ·
               rw [if_pos c22] at H; have c22b0 := decide_eq_true c22; clear c22; obtain ⟨y119, hy119⟩ : ∃ y_ : List Int, y_ = (x6_3.set ((ji20) : Int).toNat ((ji19) % 256)) := ⟨_, rfl⟩
               replace H : (octets_Put.l0 k3 a0 a1 y119 a1 (wrap64 (x26_3 + 1))) = some (r1, r2) := by first | (rw [hy119]; with_reducible exact H) | (have H2_ := (Option.bind_some _ _).symm.trans H; rw [hy119]; with_reducible exact H2_) | (have H2_ := (Option.bind_some _ _).symm.trans H; with_reducible exact H2_) | with_reducible exact H | (rw [hy119]; exact H) | exact H
               have Ny119 := Aside0.mk hy119; clear hy119; have H' := Aside0.mk H; clear H; have p23 : 0 ≤ ((ji20) : Int) := of_decide_eq_true (by first | (with_reducible assumption) | assumption); have q23 : ((ji20) : Int) < ((x6_3.length : Int) : Int) := of_decide_eq_true (by first | (with_reducible assumption) | assumption); obtain ⟨go23, co23, eo23, gb23, gl23, cl23, HG23⟩ := Kd.R_form HO_6.out (by omega)
               (first | cases eo23 | (injection eo23 with ea_ en_ ec_; (first | subst ea_ | (injection ea_ with ea_; subst ea_)); subst ec_; clear en_))
               have GB23 := Aside0.mk gb23; have GG23 := Aside0.mk HG23; clear gb23 gl23 HG23; obtain ⟨hx23_0, hf23_0⟩ := Kd.R_celln 0 HO_6.out ((ji20) : Int) p23 q23; replace p23 := eq_true p23; replace q23 := eq_true q23; have HP24 := Kd.R_putg HO_6.out ((ji20) : Int) ((ji19) % 256)
               go_wp2_with (first | ((with_reducible refine gate_store (t := 5) (p := 39) rfl ?_); refine store_event (t := 5) (p := 39) (v := ?vo_w25) (w1 := (wr.setCell ⟨go23, ((ji20) : Int).toNat, none⟩ (.int .u8 ((ji19) % 256)))) ?hg ?ho ?hn ?hr ?_; (case ho => rfl); (case hg => rfl); (case hn => rfl); (case hr => first | (go_simp; done) | (go_simp; rfl)); intro w25 hw; have hg : wr.grownBy w25 (some go23) := (by rw [hw]; exact HP24.2); have hp_ : Kd.R (Kd.int .u8) 5 w25 w.heap.size (fun _ => True) (.slice (some ⟨go23, 0, none⟩) x6_3.length co23) y119 := (by rw [hw, Ny119.out]; exact HP24.1); clear HP24; replace HO_6 := Ext.a (hp_); replace HB := Ext.a ((by rw [hw]; exact below_set (HB.out) GB23.out : Below w.heap.size w w25)); clear hg hw hp_))
               go_roundg k3
               case measure => have := HJ2.out; have := HJ5.out; have := HK3.out; omega
               case rel => exact ⟨(y119), (wrap64 (x26_3 + 1)), (by first | rfl | (simp; done) | (simp [*]; done)), H', ⟨by have := HJ2.out; have := HJ5.out; have := HK3.out; omega⟩, ⟨by exact Ext.nR HO_6.out⟩, ⟨by exact Ext.nB HB.out⟩⟩
              · rw [if_neg c22] at H; exact absurd H (by simp)
             · rw [if_neg c21] at H; exact absurd H (by simp)
            · rw [if_neg c18] at H; exact absurd H (by simp)
           ·
            rw [if_neg c16] at H; have c16b0 := decide_eq_false c16; clear c16; simp only [Option.some.injEq, Prod.mk.injEq] at H; obtain ⟨rfl, rfl⟩ := H
            go_wp2
            go_ret2
            exact ⟨_, by first | rfl | (simp [errW_none, errW_some] <;> rfl) | (simp [*, errW_none, errW_some] <;> rfl), by exact Ext.nR HO_6.out, by exact Ext.nB HB.out⟩
        · rw [if_neg c13] at H; exact absurd H (by simp)
       · rw [if_neg c12] at H; exact absurd H (by simp)



/-! ### reply_writer_put: function 47 -/
def reply_writer_put.f (k : Nat) (s0_0 : List Int) (s0_1 : Bool) (a1 : Int) (a2 : Int) : Option (List Int × Bool) := (octets_Put.f k a1 a2).bind fun bt120 => (if s0_1 = true then (if s0_0.length + bt120.1.length < 140737488355328 then (some ((s0_0 ++ bt120.1), true)) else (none)) else (if s0_0.length + bt120.1.length < 140737488355328 then (some ((s0_0 ++ bt120.1), (bt120.2 != 0))) else (none)))
theorem reply_writer_put.mono : ∀ a0 a1 a2 a3 k, LeO (reply_writer_put.f k a0 a1 a2 a3) (reply_writer_put.f (k + 1) a0 a1 a2 a3) := by
 intro a0 a1 a2 a3 k
 unfold reply_writer_put.f
 repeat' first
   | (with_reducible exact octets_Put.mono _ _ _)
   | (with_reducible exact LeO.refl _)
   | (with_reducible exact LeO.none _)
   | (with_reducible refine LeO.ite ?_ ?_)
   | (with_reducible refine LeO.bind ?_ (fun _ => ?_))
   | exact octets_Put.mono _ _ _
   | exact LeO.none _
   | refine LeO.ite ?_ ?_
   | refine LeO.bind ?_ (fun _ => ?_)
set_option maxHeartbeats 8000000 in
set_option maxRecDepth 100000 in
theorem reply_writer_put.calls (k : Nat) (g : Nat) (s0_0 : List Int) (s0_1 : Bool) (a1 : Int) (a2 : Int) (r1 : List Int) (r2 : Bool) (w wS : World) (hI : IsS62 w wS wS g s0_0 s0_1) (hB : Below w.heap.size w wS) (h : reply_writer_put.f k s0_0 s0_1 a1 a2 = some (r1, r2)) :
  Calls Try.prog 47 #[.pointer (some ⟨g, 0, none⟩), .int .u64 a1, .int .i64 a2] wS fun e w' => e = .returned (.tuple #[]) ∧ IsS62 w wS w' g r1 r2 ∧ Below w.heap.size w w' := by
 have HI0 := Aside0.mk hI; have HB := Aside0.mk hB; clear hI hB; have H := h; unfold reply_writer_put.f at H; clear h; replace H := Option.bind_eq_some_iff.mp H; obtain ⟨⟨t120, t121⟩, A40, H⟩ := H; (try dsimp only at H); have A4 := Aside0.mk A40; clear A40
 by_cases c5 : s0_1 = true
 ·
  subst c5; rw [if_pos rfl] at H
  by_cases c6 : s0_0.length + t120.length < 140737488355328
  ·
   rw [if_pos c6] at H; have LMc6 := Aside0.mk c6; clear c6; obtain ⟨y126, hy126⟩ : ∃ y_ : List Int, y_ = (s0_0 ++ t120) := ⟨_, rfl⟩
   replace H : (some (y126, true)) = some (r1, r2) := by first | (rw [hy126]; with_reducible exact H) | (have H2_ := (Option.bind_some _ _).symm.trans H; rw [hy126]; with_reducible exact H2_) | (have H2_ := (Option.bind_some _ _).symm.trans H; with_reducible exact H2_) | with_reducible exact H | (rw [hy126]; exact H) | exact H
   have Ny126 := Aside0.mk hy126; clear hy126; simp only [Option.some.injEq, Prod.mk.injEq] at H; obtain ⟨rfl, rfl⟩ := H
   go_enter Try.func47, Try.ntmps47
   go_wp2_with (first | ((with_reducible refine gate_callee (f := 62) rfl ?_); refine Ext.gs (some 11) rfl rfl Try.func62 #[.int .u64 a1, .int .i64 a2] rfl ?_; (with_reducible refine (octets_Put.calls k a1 a2 t120 t121 _ A4.out).mono ?_); rintro e w7 ⟨v122, rfl, ho0, hb⟩; refine ⟨_, rfl, ?_⟩; have HO123 := Ext.a (Kd.R_lower ho0 (below_size (Ext.s1 (IsS62.ge HI0.out) HB.out))); replace HB := Ext.a (below_step (Ext.s1 (IsS62.ge HI0.out) HB.out) hb); replace HI0 := Ext.a (IsS62.below (IsS62.go HI0.out) hb); (try clear hb ho0); obtain ⟨⟨vbz8, HGz8, hgz8, hoz8⟩, hfz8⟩ := HI0.out; have hcz8_1 := cellS62_1 HGz8; have hfz8_1 := blk_frozen HGz8 1; clear HGz8 hgz8 hoz8 hfz8; obtain ⟨⟨v124, HGz9, hgz9, hoz9⟩, hfz9⟩ := HI0.out; have hcz9_0 := (blk_cell HGz9 0).trans rfl; have hcz9_1 := cellS62_1 HGz9; have hfz9_0 := blk_frozen HGz9 0; have hfz9_1 := blk_frozen HGz9 1; have HO125 := Aside0.mk hoz9; have HX0 := Aside0.mk HGz9; have GE0 := Aside0.mk hgz9; have GW0 := GE0; have HF0 := Aside0.mk hfz9; clear HGz9 hgz9 hoz9 hfz9 HI0; obtain ⟨Ao11, co11, eo11⟩ := Kd.R_slice HO123.out; subst eo11) | ((with_reducible refine gate_builtin (b := .append) (xs := #[.tmp 29, .tmp 30]) rfl ?_); at_builtin; refine Kd.R_append_rows (Kd.int .u8) (w0 := w) w.heap.size rfl (.tmp 29) (.tmp 30) 36 5 (.int .u8 0) 1 rfl Try.underlying36 info5 rfl (by decide) (by omega) v124 s0_0 t120 _ _ _ (fun _ => True) (fun _ => False) rfl rfl ?aO ?aR (fun _ _ h => h) (fun _ h => h.elim) ?aF ?aB ?aS ?aL ?_; (case aR => refine (Kd.R_reads' (e := 5) (base := w.heap.size) (ok := fun k_ => True) (n := t120.length) (c := co11) ?_).2.2; exact (Ext.nR ((Kd.R_mono (Kd.R_far (p := ⟨g, 1, none⟩) (Kd.R_types HO123.out HX0.out (by decide)) (fun _ hk => hk.2) (.bool true)) (fun _ h_ => h_.1))))); (case aB => exact (Ext.s1 GE0.out HB.out)); (case aF => exact (fun _ _ => trivial)); (case aO => exact (Ext.nR (Kd.R_mono (Kd.R_far (p := ⟨g, 1, none⟩) (Kd.R_types HO125.out HX0.out (by decide)) (fun _ hk => hk.2) (.bool true)) (fun _ hk => trivial)))); (case aS => exact (below_size (Ext.s1 GE0.out HB.out))); (case aL => have := LMc6.out; omega); intro v127 w10 ho hb hg hat; rw [← Ny126.out] at ho; replace HF0 := Ext.a (Ext.Fr.grown (Ext.fr HF0.out) (Ext.nR ((Kd.R_mono (Kd.R_far (p := ⟨g, 1, none⟩) (Kd.R_types HO125.out HX0.out (by decide)) (fun _ hk => hk.2) (.bool true)) (fun _ h_ => h_.1)))) hg); replace HX0 := Ext.a (blk_grown (g := g) (o := .cells #[v124, .bool true] 62 (0, 0)) (by refine blk_put (cs := #[v124, .bool true]) ?_ 1 _ rfl; exact HX0.out) hg (Kd.R_ne HO125.out HX0.out (by decide))); replace HB := Ext.a (hb); have HO128 := Ext.a (ho); clear HO125; clear ho hb hg hat; obtain ⟨Ao12, co12, eo12⟩ := Kd.R_slice HO128.out; subst eo12; have hcz13_0 : w10.cell? ⟨g, 0, none⟩ = some (v124) := (blk_cell HX0.out 0).trans rfl; have hcz13_1 : w10.cell? ⟨g, 1, none⟩ = some (.bool true) := (blk_cell HX0.out 1).trans rfl; have hfz13_0 := blk_frozen HX0.out 0; have hfz13_1 := blk_frozen HX0.out 1))
   first | go_end0 | ((try simp only [Exit.inBlock, Exit.then]); refine bodyPost_ret (results_none rfl _ _ _) rfl ?_)
   exact ⟨by first | rfl | (simp [errW_none, errW_some] <;> rfl) | (simp [*, errW_none, errW_some] <;> rfl), ⟨⟨_, (by refine blk_put (cs := #[v124, .bool true]) ?_ 0 _ rfl; exact HX0.out), GE0.out, (Ext.nR (Kd.R_mono (Kd.R_far (p := ⟨g, 0, none⟩) (Kd.R_types HO128.out HX0.out (by decide)) (fun _ hk => hk.2) (.slice Ao12 y126.length co12)) (fun _ hk => trivial)))⟩, Ext.fr HF0.out⟩, by exact Ext.s1 GE0.out HB.out⟩
  · rw [if_neg c6] at H; exact absurd H (by simp)
 ·
  replace c5 := Bool.eq_false_iff.mpr c5; subst c5; rw [if_neg Bool.false_ne_true] at H
  by_cases c14 : s0_0.length + t120.length < 140737488355328
  ·
   rw [if_pos c14] at H; have LMc14 := Aside0.mk c14; clear c14; obtain ⟨y131, hy131⟩ : ∃ y_ : List Int, y_ = (s0_0 ++ t120) := ⟨_, rfl⟩
   replace H : (some (y131, (t121 != 0))) = some (r1, r2) := by first | (rw [hy131]; with_reducible exact H) | (have H2_ := (Option.bind_some _ _).symm.trans H; rw [hy131]; with_reducible exact H2_) | (have H2_ := (Option.bind_some _ _).symm.trans H; with_reducible exact H2_) | with_reducible exact H | (rw [hy131]; exact H) | exact H
   have Ny131 := Aside0.mk hy131; clear hy131; simp only [Option.some.injEq, Prod.mk.injEq] at H; obtain ⟨rfl, rfl⟩ := H
   go_enter Try.func47, Try.ntmps47
   go_wp2_with (first | ((with_reducible refine gate_callee (f := 62) rfl ?_); refine Ext.gs (some 11) rfl rfl Try.func62 #[.int .u64 a1, .int .i64 a2] rfl ?_; (with_reducible refine (octets_Put.calls k a1 a2 t120 t121 _ A4.out).mono ?_); rintro e w15 ⟨v122, rfl, ho0, hb⟩; refine ⟨_, rfl, ?_⟩; have HO123 := Ext.a (Kd.R_lower ho0 (below_size (Ext.s1 (IsS62.ge HI0.out) HB.out))); replace HB := Ext.a (below_step (Ext.s1 (IsS62.ge HI0.out) HB.out) hb); replace HI0 := Ext.a (IsS62.below (IsS62.go HI0.out) hb); (try clear hb ho0); obtain ⟨⟨vbz16, HGz16, hgz16, hoz16⟩, hfz16⟩ := HI0.out; have hcz16_1 := cellS62_1 HGz16; have hfz16_1 := blk_frozen HGz16 1; clear HGz16 hgz16 hoz16 hfz16; obtain ⟨⟨v129, HGz17, hgz17, hoz17⟩, hfz17⟩ := HI0.out; have hcz17_0 := (blk_cell HGz17 0).trans rfl; have hcz17_1 := cellS62_1 HGz17; have hfz17_0 := blk_frozen HGz17 0; have hfz17_1 := blk_frozen HGz17 1; have HO130 := Aside0.mk hoz17; have HX0 := Aside0.mk HGz17; have GE0 := Aside0.mk hgz17; have GW0 := GE0; have HF0 := Aside0.mk hfz17; clear HGz17 hgz17 hoz17 hfz17 HI0; obtain ⟨Ao19, co19, eo19⟩ := Kd.R_slice HO123.out; subst eo19) | ((with_reducible refine gate_builtin (b := .append) (xs := #[.tmp 29, .tmp 30]) rfl ?_); at_builtin; refine Kd.R_append_rows (Kd.int .u8) (w0 := w) w.heap.size rfl (.tmp 29) (.tmp 30) 36 5 (.int .u8 0) 1 rfl Try.underlying36 info5 rfl (by decide) (by omega) v129 s0_0 t120 _ _ _ (fun _ => True) (fun _ => False) rfl rfl ?aO ?aR (fun _ _ h => h) (fun _ h => h.elim) ?aF ?aB ?aS ?aL ?_; (case aR => refine (Kd.R_reads' (e := 5) (base := w.heap.size) (ok := fun k_ => True) (n := t120.length) (c := co19) ?_).2.2; exact (Ext.nR ((Kd.R_mono (Kd.R_far (p := ⟨g, 1, none⟩) (Kd.R_types HO123.out HX0.out (by decide)) (fun _ hk => hk.2) (.bool (t121 != 0))) (fun _ h_ => h_.1))))); (case aB => exact (Ext.s1 GE0.out HB.out)); (case aF => exact (fun _ _ => trivial)); (case aO => exact (Ext.nR (Kd.R_mono (Kd.R_far (p := ⟨g, 1, none⟩) (Kd.R_types HO130.out HX0.out (by decide)) (fun _ hk => hk.2) (.bool (t121 != 0))) (fun _ hk => trivial)))); (case aS => exact (below_size (Ext.s1 GE0.out HB.out))); (case aL => have := LMc14.out; omega); intro v132 w18 ho hb hg hat; rw [← Ny131.out] at ho; replace HF0 := Ext.a (Ext.Fr.grown (Ext.fr HF0.out) (Ext.nR ((Kd.R_mono (Kd.R_far (p := ⟨g, 1, none⟩) (Kd.R_types HO130.out HX0.out (by decide)) (fun _ hk => hk.2) (.bool (t121 != 0))) (fun _ h_ => h_.1)))) hg); replace HX0 := Ext.a (blk_grown (g := g) (o := .cells #[v129, .bool (t121 != 0)] 62 (0, 0)) (by refine blk_put (cs := #[v129, .bool false]) ?_ 1 _ rfl; exact HX0.out) hg (Kd.R_ne HO130.out HX0.out (by decide))); replace HB := Ext.a (hb); have HO133 := Ext.a (ho); clear HO130; clear ho hb hg hat; obtain ⟨Ao20, co20, eo20⟩ := Kd.R_slice HO133.out; subst eo20; have hcz21_0 : w18.cell? ⟨g, 0, none⟩ = some (v129) := (blk_cell HX0.out 0).trans rfl; have hcz21_1 : w18.cell? ⟨g, 1, none⟩ = some (.bool (t121 != 0)) := (blk_cell HX0.out 1).trans rfl; have hfz21_0 := blk_frozen HX0.out 0; have hfz21_1 := blk_frozen HX0.out 1))
   first | go_end0 | ((try simp only [Exit.inBlock, Exit.then]); refine bodyPost_ret (results_none rfl _ _ _) rfl ?_)
   exact ⟨by first | rfl | (simp [errW_none, errW_some] <;> rfl) | (simp [*, errW_none, errW_some] <;> rfl), ⟨⟨_, (by refine blk_put (cs := #[v129, .bool (t121 != 0)]) ?_ 0 _ rfl; exact HX0.out), GE0.out, (Ext.nR (Kd.R_mono (Kd.R_far (p := ⟨g, 0, none⟩) (Kd.R_types HO133.out HX0.out (by decide)) (fun _ hk => hk.2) (.slice Ao20 y131.length co20)) (fun _ hk => trivial)))⟩, Ext.fr HF0.out⟩, by exact Ext.s1 GE0.out HB.out⟩
  · rw [if_neg c14] at H; exact absurd H (by simp)



/-! ### reply_writer_num: function 42 -/
def reply_writer_num.f (k : Nat) (s0_0 : List Int) (s0_1 : Bool) (a1 : Int) : Option (List Int × Bool) := (reply_writer_put.f k s0_0 s0_1 (IntKind.u64.wrap (a1)) 8).bind fun bt134 => (some (bt134.1, bt134.2))
theorem reply_writer_num.mono : ∀ a0 a1 a2 k, LeO (reply_writer_num.f k a0 a1 a2) (reply_writer_num.f (k + 1) a0 a1 a2) := by
 intro a0 a1 a2 k
 unfold reply_writer_num.f
 repeat' first
   | (with_reducible exact reply_writer_put.mono _ _ _ _ _)
   | (with_reducible exact LeO.refl _)
   | (with_reducible exact LeO.none _)
   | (with_reducible refine LeO.ite ?_ ?_)
   | (with_reducible refine LeO.bind ?_ (fun _ => ?_))
   | exact reply_writer_put.mono _ _ _ _ _
   | exact LeO.none _
   | refine LeO.ite ?_ ?_
   | refine LeO.bind ?_ (fun _ => ?_)
set_option maxHeartbeats 8000000 in
set_option maxRecDepth 100000 in
theorem reply_writer_num.calls (k : Nat) (g : Nat) (s0_0 : List Int) (s0_1 : Bool) (a1 : Int) (r1 : List Int) (r2 : Bool) (w wS : World) (hI : IsS62 w wS wS g s0_0 s0_1) (hB : Below w.heap.size w wS) (h : reply_writer_num.f k s0_0 s0_1 a1 = some (r1, r2)) :
  Calls Try.prog 42 #[.pointer (some ⟨g, 0, none⟩), .int .i64 a1] wS fun e w' => e = .returned (.tuple #[]) ∧ IsS62 w wS w' g r1 r2 ∧ Below w.heap.size w w' := by
 have HI0 := Aside0.mk hI; have HB := Aside0.mk hB; clear hI hB; have H := h; unfold reply_writer_num.f at H; clear h; replace H := Option.bind_eq_some_iff.mp H; obtain ⟨⟨t134, t135⟩, A30, H⟩ := H; (try dsimp only at H); have A3 := Aside0.mk A30; clear A30; simp only [Option.some.injEq, Prod.mk.injEq] at H; obtain ⟨rfl, rfl⟩ := H
 go_enter Try.func42, Try.ntmps42
 go_wp2_with (first | ((with_reducible refine gate_callee (f := 47) rfl ?_); refine Ext.gs (some 7) rfl rfl Try.func47 #[.pointer (some ⟨g, 0, none⟩), .int .u64 (IntKind.u64.wrap (a1)), .int .i64 8] rfl ?_; (with_reducible refine (reply_writer_put.calls k g s0_0 s0_1 (IntKind.u64.wrap (a1)) 8 t134 t135 w _ ?side1 ?side2 A3.out).mono ?_); (case side1 => refine IsS62.now (wF := wS) ?_; repeat (first | (with_reducible first | exact HI0.out | apply IsS62.alloc | apply IsS62.drewN | apply IsS62.drew | apply IsS62.set_1) | exact HI0.out)); (case side2 => exact Ext.s1 (IsS62.ge HI0.out) HB.out); rintro e w4 ⟨rfl, hi, hb⟩; refine ⟨_, rfl, ?_⟩; replace HB := Ext.a (hb); replace HI0 := Ext.a (IsS62.then (IsS62.go HI0.out) hi); (try clear hb hi)))
 first | go_end0 | ((try simp only [Exit.inBlock, Exit.then]); refine bodyPost_ret (results_none rfl _ _ _) rfl ?_)
 exact ⟨by first | rfl | (simp [errW_none, errW_some] <;> rfl) | (simp [*, errW_none, errW_some] <;> rfl), by exact IsS62.go HI0.out, by exact Ext.s1 (IsS62.ge HI0.out) HB.out⟩

end Go.Proofs.Ytlhjdmpclfhoeaa.PC
