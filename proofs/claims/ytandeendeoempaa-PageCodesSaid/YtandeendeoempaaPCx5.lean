-- Written by wip/printx.py, a program of this work over the kit's print, for this claim.
import Derived.Test.YtandeendeoempaaPCx0
namespace Go.Proofs.Ytandeendeoempaa.PC
open Go.RowKit Go.Proofs.YtandeendeoempaaW.PrintWords Go.Proofs.YtandeendeoempaaW.PrintLast Go.Proofs.YtandeendeoempaaW.PrintMore
attribute [local go_sem] max2_int min2_int max_two min_two max_three min_three max_four min_four   -- for this text's walks alone
attribute [local go_sem] Ext.pick_u8 Ext.pick_u32 Ext.pick_u64
set_option linter.unusedVariables false
set_option linter.unusedSimpArgs false



/-! ### octets_Put: function 43 -/
mutual
def octets_Put.j0 : Nat → Int → Int → Bool → Option (List Int × Int)
 | 0, _, _, _ => none
 | k + 1, x0, x1, x13 => if x13 = true then (some (([] : List Int), 1)) else (if x1 < 8 then (if 0 ≤ (wrap64 (8 * x1)) then (octets_Put.j1 k x0 x1 ((shr .u64 x0 (wrap64 (8 * x1))) != 0)) else (none)) else (octets_Put.j1 k x0 x1 false))
def octets_Put.j1 : Nat → Int → Int → Bool → Option (List Int × Int)
 | 0, _, _, _ => none
 | k + 1, x0, x1, x22 => if x22 = true then (some (([] : List Int), 2)) else (if 0 ≤ x1 then (if (x1 : Int).toNat ≤ 281474976710656 then (octets_Put.l0 k x0 x1 (List.replicate (x1 : Int).toNat 0) x1 0) else (none)) else (none))
def octets_Put.l0 : Nat → Int → Int → List Int → Int → Int → Option (List Int × Int)
 | 0, _, _, _, _, _ => none
 | k + 1, x0, x1, x6, x25, x26 => if x26 < x25 then (if 0 ≤ (wrap64 (8 * x26)) then (if 0 ≤ (wrap64 ((wrap64 (x1 - 1)) - x26)) then (if (wrap64 ((wrap64 (x1 - 1)) - x26)) < (x6.length : Int) then (octets_Put.l0 k x0 x1 (x6.set ((wrap64 ((wrap64 (x1 - 1)) - x26)) : Int).toNat ((shr .u64 x0 (wrap64 (8 * x26))) % 256)) x25 (wrap64 (x26 + 1))) else (none)) else (none)) else (none)) else (some (x6, 0))
end
def octets_Put.f (k : Nat) (a0 : Int) (a1 : Int) : Option (List Int × Int) := if a1 < 1 then (octets_Put.j0 k a0 a1 true) else (octets_Put.j0 k a0 a1 (decide (a1 > 8)))
theorem octets_Put.mono_l : ∀ k, (∀ y0 y1 y2, LeO (octets_Put.j0 k y0 y1 y2) (octets_Put.j0 (k + 1) y0 y1 y2)) ∧ (∀ y0 y1 y2, LeO (octets_Put.j1 k y0 y1 y2) (octets_Put.j1 (k + 1) y0 y1 y2)) ∧ (∀ y0 y1 y2 y3 y4, LeO (octets_Put.l0 k y0 y1 y2 y3 y4) (octets_Put.l0 (k + 1) y0 y1 y2 y3 y4))
 | 0 => ⟨fun _ _ _ r h => by simp [octets_Put.j0] at h, fun _ _ _ r h => by simp [octets_Put.j1] at h, fun _ _ _ _ _ r h => by simp [octets_Put.l0] at h⟩
 | k + 1 => by
  obtain ⟨ih0, ih1, ih2⟩ := octets_Put.mono_l k; refine ⟨?_, ?_, ?_⟩
  ·
   intro y0 y1 y2
   unfold octets_Put.j0
   repeat' first
   | (with_reducible exact ih0 _ _ _)
   | (with_reducible exact ih1 _ _ _)
   | (with_reducible exact ih2 _ _ _ _ _)
   | (with_reducible exact LeO.refl _)
   | (with_reducible exact LeO.none _)
   | (with_reducible refine LeO.ite ?_ ?_)
   | (with_reducible refine LeO.bind ?_ (fun _ => ?_))
   | exact ih0 _ _ _
   | exact ih1 _ _ _
   | exact ih2 _ _ _ _ _
   | exact LeO.none _
   | refine LeO.ite ?_ ?_
   | refine LeO.bind ?_ (fun _ => ?_)
  ·
   intro y0 y1 y2
   unfold octets_Put.j1
   repeat' first
   | (with_reducible exact ih0 _ _ _)
   | (with_reducible exact ih1 _ _ _)
   | (with_reducible exact ih2 _ _ _ _ _)
   | (with_reducible exact LeO.refl _)
   | (with_reducible exact LeO.none _)
   | (with_reducible refine LeO.ite ?_ ?_)
   | (with_reducible refine LeO.bind ?_ (fun _ => ?_))
   | exact ih0 _ _ _
   | exact ih1 _ _ _
   | exact ih2 _ _ _ _ _
   | exact LeO.none _
   | refine LeO.ite ?_ ?_
   | refine LeO.bind ?_ (fun _ => ?_)
  ·
   intro y0 y1 y2 y3 y4
   unfold octets_Put.l0
   repeat' first
   | (with_reducible exact ih0 _ _ _)
   | (with_reducible exact ih1 _ _ _)
   | (with_reducible exact ih2 _ _ _ _ _)
   | (with_reducible exact LeO.refl _)
   | (with_reducible exact LeO.none _)
   | (with_reducible refine LeO.ite ?_ ?_)
   | (with_reducible refine LeO.bind ?_ (fun _ => ?_))
   | exact ih0 _ _ _
   | exact ih1 _ _ _
   | exact ih2 _ _ _ _ _
   | exact LeO.none _
   | refine LeO.ite ?_ ?_
   | refine LeO.bind ?_ (fun _ => ?_)
theorem octets_Put.mono : ∀ a0 a1 k, LeO (octets_Put.f k a0 a1) (octets_Put.f (k + 1) a0 a1) := by
 intro a0 a1 k
 obtain ⟨ih0, ih1, ih2⟩ := octets_Put.mono_l k; unfold octets_Put.f
 repeat' first
   | (with_reducible exact ih0 _ _ _)
   | (with_reducible exact ih1 _ _ _)
   | (with_reducible exact ih2 _ _ _ _ _)
   | (with_reducible exact LeO.refl _)
   | (with_reducible exact LeO.none _)
   | (with_reducible refine LeO.ite ?_ ?_)
   | (with_reducible refine LeO.bind ?_ (fun _ => ?_))
   | exact ih0 _ _ _
   | exact ih1 _ _ _
   | exact ih2 _ _ _ _ _
   | exact LeO.none _
   | refine LeO.ite ?_ ?_
   | refine LeO.bind ?_ (fun _ => ?_)
set_option maxHeartbeats 8000000 in
set_option maxRecDepth 100000 in
theorem octets_Put.calls (k : Nat) (a0 : Int) (a1 : Int) (r1 : List Int) (r2 : Int) (w : World) (h : octets_Put.f k a0 a1 = some (r1, r2)) :
  Calls Try.prog 43 #[.int .u64 a0, .int .i64 a1] w fun e w' => ∃ v0_ : Value, e = .returned (.tuple #[v0_, .int .i64 r2]) ∧ Kd.R (Kd.int .u8) 5 w' w.heap.size (fun _ => True) v0_ r1 ∧ Below w.heap.size w w' := by
 have HB := Ext.a (Below.refl w.heap.size w); have H := h; unfold octets_Put.f at H; clear h; have HC3 := Aside0.mk H; clear H
 go_enter Try.func43, Try.ntmps43
 go_upto_region 1 with (fail)
 go_cut [13] (fun v13 wc => ∃ (kq : Nat) (x13_2 : Bool), v13 = .bool x13_2 ∧ Aside0 (octets_Put.j0 kq a0 a1 x13_2 = some (r1, r2)) ∧ Aside0 (kq ≤ k) ∧ Aside0 (Below w.heap.size w wc))
 case first =>
  have H := HC3.out; clear HC3
  by_cases c4 : a1 < 1
  case' _ =>
   rw [if_pos c4] at H; have c4b0 := decide_eq_true c4; clear c4
   (first | rw [c4b0] | (simp only [i64_w, i32_w]; rw [c4b0]) | skip)
  rotate_left 1
  case' _ =>
   rw [if_neg c4] at H; have c4b0 := decide_eq_false c4; clear c4
   (first | rw [c4b0] | (simp only [i64_w, i32_w]; rw [c4b0]) | skip)
  all_goals (have H' := Aside0.mk H; clear H; go_wp2; go_meet; (case rel => exact ⟨_, _, (by first | rfl | (simp; done) | (simp [*]; done)), H', ⟨by first | omega | exact Nat.le_refl _⟩, ⟨by exact Ext.nB HB.out⟩⟩))
 case rest =>
  clear HC3; (try clear p2 c4b0); obtain ⟨kq, x13_2, rfl, HA, HJ2, HB⟩ := hcut; cases kq with
  | zero => exact absurd HA.out (by simp [octets_Put.j0])
  | succ kj2 =>
   have H := HA.out; clear HA; simp only [octets_Put.j0] at H
   by_cases c5 : x13_2 = true
   ·
    subst c5; rw [if_pos rfl] at H; simp only [Option.some.injEq, Prod.mk.injEq] at H; obtain ⟨rfl, rfl⟩ := H
    go_wp2
    go_ret2
    exact ⟨_, by first | rfl | (simp [errW_none, errW_some] <;> rfl) | (simp [*, errW_none, errW_some] <;> rfl), by first | exact Ext.nl | exact Kd.R_nil _ _ _ _ _, by exact Ext.nB HB.out⟩
   ·
    replace c5 := Bool.eq_false_iff.mpr c5; subst c5; rw [if_neg Bool.false_ne_true] at H; have HC6 := Aside0.mk H; clear H
    go_upto_region 3 with (fail)
    go_cut [22] (fun v22 wc => ∃ (kq : Nat) (x22_5 : Bool), v22 = .bool x22_5 ∧ Aside0 (octets_Put.j1 kq a0 a1 x22_5 = some (r1, r2)) ∧ Aside0 (kq ≤ kj2) ∧ Aside0 (Below w.heap.size w wc))
    case first =>
     have H := HC6.out; clear HC6
     by_cases c7 : a1 < 8
     ·
      rw [if_pos c7] at H; have c7b0 := decide_eq_true c7; clear c7
      (first | rw [c7b0] | (simp only [i64_w, i32_w]; rw [c7b0]) | skip)
      obtain ⟨ji8, hji8⟩ : ∃ j_ : Int, (wrap64 (8 * a1)) = j_ := ⟨_, rfl⟩
      replace H : (if 0 ≤ (ji8) then (octets_Put.j1 kj2 a0 a1 ((shr .u64 a0 (ji8)) != 0)) else (none)) = some (r1, r2) := by first | (rw [hji8] at H; exact H) | (simp only [hji8] at H ⊢; exact H)
      have hji8w : (IntKind.i64.wrap (8 * a1)) = ji8 := (i64_w _).trans hji8
      by_cases c9 : 0 ≤ (ji8)
      ·
       rw [if_pos c9] at H; have c9b0 := eq_true c9; have c9b1 := decide_eq_true c9; clear c9; obtain ⟨ji10, hji10⟩ : ∃ j_ : Int, (shr .u64 a0 (ji8)) = j_ := ⟨_, rfl⟩
       replace H : (octets_Put.j1 kj2 a0 a1 ((ji10) != 0)) = some (r1, r2) := by first | (rw [hji10] at H; exact H) | (simp only [hji10] at H ⊢; exact H)
       have hji10_ : (a0 / 2 ^ min (ji8).toNat 64) = ji10 := hji10; have hji10z : (ji8) ≤ 64 → (a0 / 2 ^ (ji8).toNat) = ji10 := shr_small hji10; have H' := Aside0.mk H; clear H
       go_wp2
       go_meet
       case rel => exact ⟨_, (((ji10) != 0)), (by first | rfl | (simp; done) | (simp only [← hji10] <;> (first | rfl | simp)) | (simp [*]; done)), H', ⟨by have := HJ2.out; first | omega | exact Nat.le_refl _⟩, ⟨by exact Ext.nB HB.out⟩⟩
      · rw [if_neg c9] at H; exact absurd H (by simp)
     ·
      rw [if_neg c7] at H; have c7b0 := decide_eq_false c7; clear c7
      (first | rw [c7b0] | (simp only [i64_w, i32_w]; rw [c7b0]) | skip)
      have H' := Aside0.mk H; clear H
      go_wp2
      go_meet
      case rel => exact ⟨_, (false), (by first | rfl | (simp; done) | (simp [*]; done)), H', ⟨by have := HJ2.out; first | omega | exact Nat.le_refl _⟩, ⟨by exact Ext.nB HB.out⟩⟩
    case rest =>
     clear HC6; (try clear p6 c7b0 c9b0 c9b1); obtain ⟨kq, x22_5, rfl, HA, HJ5, HB⟩ := hcut; cases kq with
     | zero => exact absurd HA.out (by simp [octets_Put.j1])
     | succ kj5 =>
      have H := HA.out; clear HA; simp only [octets_Put.j1] at H
      by_cases c11 : x22_5 = true
      ·
       subst c11; rw [if_pos rfl] at H; simp only [Option.some.injEq, Prod.mk.injEq] at H; obtain ⟨rfl, rfl⟩ := H
       go_wp2
       go_ret2
       exact ⟨_, by first | rfl | (simp [errW_none, errW_some] <;> rfl) | (simp [*, errW_none, errW_some] <;> rfl), by first | exact Ext.nl | exact Kd.R_nil _ _ _ _ _, by exact Ext.nB HB.out⟩
      ·
       replace c11 := Bool.eq_false_iff.mpr c11; subst c11; rw [if_neg Bool.false_ne_true] at H
       by_cases c12 : 0 ≤ a1
       ·
        rw [if_pos c12] at H; have c12b0 := eq_true c12; have c12b1 := decide_eq_true c12; clear c12
        by_cases c13 : (a1 : Int).toNat ≤ 281474976710656
        ·
         rw [if_pos c13] at H; have c13b0 := eq_true c13; have c13b1 := decide_eq_true c13; clear c13; obtain ⟨y127, hy127⟩ : ∃ y_ : List Int, y_ = (List.replicate (a1 : Int).toNat 0) := ⟨_, rfl⟩
         replace H : (octets_Put.l0 kj5 a0 a1 y127 a1 0) = some (r1, r2) := by first | (rw [hy127]; with_reducible exact H) | (have H2_ := (Option.bind_some _ _).symm.trans H; rw [hy127]; with_reducible exact H2_) | (have H2_ := (Option.bind_some _ _).symm.trans H; with_reducible exact H2_) | with_reducible exact H | (rw [hy127]; exact H) | exact H
         have Ny127 := Aside0.mk hy127; clear hy127; have H' := Aside0.mk H; clear H
         go_wp2_with (first | ((with_reducible refine gate_dst (N := 24) rfl ?_); refine Kd.R_make (Kd.int .u8) _ 5 rfl (N := 24) rfl 25 _ _ rfl a1 rfl rfl Try.underlying25 (.int .u8 0) 1 info5 rfl (by decide) (by omega) 0 (ok := fun _ => True) (okp := fun _ => True) rfl (fun _ hk => hk) trivial (of_decide_eq_true (by first | (with_reducible assumption) | assumption)) (Nat.le_trans (Nat.mul_le_mul_right _ (of_decide_eq_true (by first | (with_reducible assumption) | assumption) : a1.toNat ≤ 281474976710656)) (by omega)) (Below.refl _ _) (Nat.le_refl _) ?_; intro v128 w14 ho15 hb hg_ hnew_; clear hg_ hnew_; (first | rw [← Ny127.out] at ho15 | (simp only [Int.reduceToNat] at ho15; rw [← Ny127.out] at ho15)); have HO129 := Ext.a (Kd.R_lower ho15 (below_size (Ext.nB HB.out))); replace HB := Ext.a (below_step (Ext.nB HB.out) hb); clear hb ho15))
         go_loopg [26] kj5 (fun kq v26 w' => ∃ (x6_3 : List Int) (x26_3 : Int), v26 = .int .i64 x26_3 ∧ Aside0 (octets_Put.l0 kq a0 a1 x6_3 a1 x26_3 = some (r1, r2)) ∧ Aside0 (kq ≤ kj5) ∧ Aside0 (Kd.R (Kd.int .u8) 5 w' w.heap.size (fun _ => True) v128 x6_3) ∧ Aside0 (Below w.heap.size w w'))
         case atStart => exact ⟨(y127), (0), (by first | rfl | (simp; done) | (simp [*]; done)), H', ⟨Nat.le_refl _⟩, ⟨by exact Ext.nR HO129.out⟩, ⟨by exact Ext.nB HB.out⟩⟩
         case round =>
          clear H'; (try clear c1 c12b0 c12b1 c13b0 c13b1); obtain ⟨x6_3, x26_3, rfl, HA, HK3, HO_6, HB⟩ := hrel; cases gk with
          | zero => exact absurd HA.out (by simp [octets_Put.l0])
          | succ k3 =>
           have H := HA.out; clear HA; simp only [octets_Put.l0] at H
           by_cases c16 : x26_3 < a1
           ·
            rw [if_pos c16] at H; have c16b0 := decide_eq_true c16; clear c16; obtain ⟨ji17, hji17⟩ : ∃ j_ : Int, (wrap64 (8 * x26_3)) = j_ := ⟨_, rfl⟩
            replace H : (if 0 ≤ (ji17) then (if 0 ≤ (wrap64 ((wrap64 (a1 - 1)) - x26_3)) then (if (wrap64 ((wrap64 (a1 - 1)) - x26_3)) < (x6_3.length : Int) then (octets_Put.l0 k3 a0 a1 (x6_3.set ((wrap64 ((wrap64 (a1 - 1)) - x26_3)) : Int).toNat ((shr .u64 a0 (ji17)) % 256)) a1 (wrap64 (x26_3 + 1))) else (none)) else (none)) else (none)) = some (r1, r2) := by first | (rw [hji17] at H; exact H) | (simp only [hji17] at H ⊢; exact H)
            have hji17w : (IntKind.i64.wrap (8 * x26_3)) = ji17 := (i64_w _).trans hji17
            by_cases c18 : 0 ≤ (ji17)
            ·
             rw [if_pos c18] at H; have c18b0 := eq_true c18; have c18b1 := decide_eq_true c18; clear c18; obtain ⟨ji19, hji19⟩ : ∃ j_ : Int, (shr .u64 a0 (ji17)) = j_ := ⟨_, rfl⟩
             replace H : (if 0 ≤ (wrap64 ((wrap64 (a1 - 1)) - x26_3)) then (if (wrap64 ((wrap64 (a1 - 1)) - x26_3)) < (x6_3.length : Int) then (octets_Put.l0 k3 a0 a1 (x6_3.set ((wrap64 ((wrap64 (a1 - 1)) - x26_3)) : Int).toNat ((ji19) % 256)) a1 (wrap64 (x26_3 + 1))) else (none)) else (none)) = some (r1, r2) := by first | (rw [hji19] at H; exact H) | (simp only [hji19] at H ⊢; exact H)
             have hji19_ : (a0 / 2 ^ min (ji17).toNat 64) = ji19 := hji19; have hji19z : (ji17) ≤ 64 → (a0 / 2 ^ (ji17).toNat) = ji19 := shr_small hji19; obtain ⟨ji20, hji20⟩ : ∃ j_ : Int, (wrap64 ((wrap64 (a1 - 1)) - x26_3)) = j_ := ⟨_, rfl⟩
             replace H : (if 0 ≤ (ji20) then (if (ji20) < (x6_3.length : Int) then (octets_Put.l0 k3 a0 a1 (x6_3.set ((ji20) : Int).toNat ((ji19) % 256)) a1 (wrap64 (x26_3 + 1))) else (none)) else (none)) = some (r1, r2) := by first | (rw [hji20] at H; exact H) | (simp only [hji20] at H ⊢; exact H)
             have hji20w : (IntKind.i64.wrap ((wrap64 (a1 - 1)) - x26_3)) = ji20 := (i64_w _).trans hji20
             by_cases c21 : 0 ≤ (ji20)
             ·
              rw [if_pos c21] at H; have c21b0 := decide_eq_true c21; clear c21
              by_cases c22 : (ji20) < (x6_3.length : Int)
              ·
               rw [if_pos c22] at H; have c22b0 := decide_eq_true c22; clear c22; obtain ⟨y130, hy130⟩ : ∃ y_ : List Int, y_ = (x6_3.set ((ji20) : Int).toNat ((ji19) % 256)) := ⟨_, rfl⟩
               replace H : (octets_Put.l0 k3 a0 a1 y130 a1 (wrap64 (x26_3 + 1))) = some (r1, r2) := by first | (rw [hy130]; with_reducible exact H) | (have H2_ := (Option.bind_some _ _).symm.trans H; rw [hy130]; with_reducible exact H2_) | (have H2_ := (Option.bind_some _ _).symm.trans H; with_reducible exact H2_) | with_reducible exact H | (rw [hy130]; exact H) | exact H
               have Ny130 := Aside0.mk hy130; clear hy130; have H' := Aside0.mk H; clear H; have p23 : 0 ≤ ((ji20) : Int) := of_decide_eq_true (by first | (with_reducible assumption) | assumption); have q23 : ((ji20) : Int) < ((x6_3.length : Int) : Int) := of_decide_eq_true (by first | (with_reducible assumption) | assumption); obtain ⟨go23, co23, eo23, gb23, gl23, cl23, HG23⟩ := Kd.R_form HO_6.out (by omega)
               (first | cases eo23 | (injection eo23 with ea_ en_ ec_; (first | subst ea_ | (injection ea_ with ea_; subst ea_)); subst ec_; clear en_))
               have GB23 := Aside0.mk gb23; have GG23 := Aside0.mk HG23; clear gb23 gl23 HG23; obtain ⟨hx23_0, hf23_0⟩ := Kd.R_celln 0 HO_6.out ((ji20) : Int) p23 q23; replace p23 := eq_true p23; replace q23 := eq_true q23; have HP24 := Kd.R_putg HO_6.out ((ji20) : Int) ((ji19) % 256)
               go_wp2_with (first | ((with_reducible refine gate_store (t := 5) (p := 39) rfl ?_); refine store_event (t := 5) (p := 39) (v := ?vo_w25) (w1 := (wr.setCell ⟨go23, ((ji20) : Int).toNat, none⟩ (.int .u8 ((ji19) % 256)))) ?hg ?ho ?hn ?hr ?_; (case ho => rfl); (case hg => rfl); (case hn => rfl); (case hr => first | (go_simp; done) | (go_simp; rfl)); intro w25 hw; have hg : wr.grownBy w25 (some go23) := (by rw [hw]; exact HP24.2); have hp_ : Kd.R (Kd.int .u8) 5 w25 w.heap.size (fun _ => True) (.slice (some ⟨go23, 0, none⟩) x6_3.length co23) y130 := (by rw [hw, Ny130.out]; exact HP24.1); clear HP24; replace HO_6 := Ext.a (hp_); replace HB := Ext.a ((by rw [hw]; exact below_set (HB.out) GB23.out : Below w.heap.size w w25)); clear hg hw hp_))
               go_roundg k3
               case measure => have := HJ2.out; have := HJ5.out; have := HK3.out; omega
               case rel => exact ⟨(y130), (wrap64 (x26_3 + 1)), (by first | rfl | (simp; done) | (simp [*]; done)), H', ⟨by have := HJ2.out; have := HJ5.out; have := HK3.out; omega⟩, ⟨by exact Ext.nR HO_6.out⟩, ⟨by exact Ext.nB HB.out⟩⟩
              · rw [if_neg c22] at H; exact absurd H (by simp)
             · rw [if_neg c21] at H; exact absurd H (by simp)
            · rw [if_neg c18] at H; exact absurd H (by simp)
           ·
            rw [if_neg c16] at H; have c16b0 := decide_eq_false c16; clear c16; simp only [Option.some.injEq, Prod.mk.injEq] at H; obtain ⟨rfl, rfl⟩ := H
            go_wp2
            go_ret2
            exact ⟨_, by first | rfl | (simp [errW_none, errW_some] <;> rfl) | (simp [*, errW_none, errW_some] <;> rfl), by exact Ext.nR HO_6.out, by exact Ext.nB HB.out⟩
        · rw [if_neg c13] at H; exact absurd H (by simp)
       · rw [if_neg c12] at H; exact absurd H (by simp)


@[reducible] def ok25_0 (p0 : Nat → Prop) (w1 : World)  : Nat → Prop := fun k_ => (p0 k_ ∨ w1.heap.size ≤ k_)
@[reducible] def ok25_1 (p0 : Nat → Prop) (w1 : World) (v0 : Value) : Nat → Prop := fun k_ => (p0 k_ ∨ w1.heap.size ≤ k_) ∧ some k_ ≠ v0.ownBlock
/-! ### page_put: function 25 -/
def page_put.f (k : Nat) (l0 : List Int) (a1 : Int) (a2 : Int) : Option (List Int) := (octets_Put.f k a1 a2).bind fun bt131 => (if l0.length + bt131.1.length < 140737488355328 then (some (l0 ++ bt131.1)) else (none))
theorem page_put.mono : ∀ a0 a1 a2 k, LeO (page_put.f k a0 a1 a2) (page_put.f (k + 1) a0 a1 a2) := by
 intro a0 a1 a2 k
 unfold page_put.f
 repeat' first
   | (with_reducible exact octets_Put.mono _ _ _)
   | (with_reducible exact LeO.refl _)
   | (with_reducible exact LeO.none _)
   | (with_reducible refine LeO.ite ?_ ?_)
   | (with_reducible refine LeO.bind ?_ (fun _ => ?_))
   | exact octets_Put.mono _ _ _
   | exact LeO.none _
   | refine LeO.ite ?_ ?_
   | refine LeO.bind ?_ (fun _ => ?_)
set_option maxHeartbeats 8000000 in
set_option maxRecDepth 100000 in
theorem page_put.calls (k : Nat) (P0_ : Nat → Prop) (u9000_ : Value) (l0 : List Int) (a1 : Int) (a2 : Int) (r : List Int) (w0 w : World) (hB : Below w0.heap.size w0 w) (ho0 : Kd.R (Kd.int .u8) 5 w w0.heap.size P0_ u9000_ l0) (h : page_put.f k l0 a1 a2 = some r) :
  Calls Try.prog 25 #[u9000_, .int .u64 a1, .int .i64 a2] w fun e w' => ∃ v0_ : Value, e = .returned (v0_) ∧ Kd.R (Kd.int .u8) 5 w' w0.heap.size (ok25_0 P0_ w) v0_ r ∧ Below w0.heap.size w0 w' ∧ Kept w w' (fun k_ => P0_ k_) := by
 have HO0 := Ext.a (show Kd.R (Kd.int .u8) 5 w w0.heap.size (ok25_0 P0_ w) u9000_ l0 from Kd.R_mono ho0 (fun k_ hk => (.inl hk))); have HK := Ext.a (Kept.refl w (fun k_ => P0_ k_)); have HW0 := Aside0.mk hB.size; have HB := Aside0.mk hB; clear hB; have H := h; unfold page_put.f at H; clear h; replace H := Option.bind_eq_some_iff.mp H; obtain ⟨⟨t131, t132⟩, A40, H⟩ := H; (try dsimp only at H); have A4 := Aside0.mk A40; clear A40
 by_cases c5 : l0.length + t131.length < 140737488355328
 ·
  rw [if_pos c5] at H; have LMc5 := Aside0.mk c5; clear c5; obtain ⟨y135, hy135⟩ : ∃ y_ : List Int, y_ = (l0 ++ t131) := ⟨_, rfl⟩
  replace H : (some y135) = some r := by first | (rw [hy135]; with_reducible exact H) | (have H2_ := (Option.bind_some _ _).symm.trans H; rw [hy135]; with_reducible exact H2_) | (have H2_ := (Option.bind_some _ _).symm.trans H; with_reducible exact H2_) | with_reducible exact H | (rw [hy135]; exact H) | exact H
  have Ny135 := Aside0.mk hy135; clear hy135; obtain rfl := Option.some.inj H
  go_enter Try.func25, Try.ntmps25
  go_wp2_with (first | ((with_reducible refine gate_callee (f := 43) rfl ?_); refine Ext.gs (some 12) rfl rfl Try.func43 #[.int .u64 a1, .int .i64 a2] rfl ?_; (with_reducible refine (octets_Put.calls k a1 a2 t131 t132 _ A4.out).mono ?_); rintro e w6 ⟨v133, rfl, ho0, hb⟩; refine ⟨_, rfl, ?_⟩; have HO134 := Ext.a (Kd.R_lower (Kd.R_new' (Kd.R_newM (M := fun k_ => (P0_ k_ ∨ w.heap.size ≤ k_)) ho0 (by first | exact HK.out.1 | exact (show Kept w _ (fun k_ => P0_ k_) from by repeat (first | (with_reducible first | exact HK.out | apply Kept.alloc | apply Kept.drewN | apply Kept.drew) | exact HK.out)).1) (fun k_ h_ => .inr h_)) (Kd.R_lt (Ext.nR HO0.out))) (below_size (Ext.nB HB.out))); replace HO0 := Ext.a (Kd.R_elder' (Ext.nR HO0.out) (Kd.R_base ho0) hb); replace HK := Ext.a (Kept.below (S := (fun k_ => P0_ k_)) (by repeat (first | (with_reducible first | exact HK.out | apply Kept.alloc | apply Kept.drewN | apply Kept.drew) | exact HK.out)) hb); replace HB := Ext.a (below_step (Ext.nB HB.out) hb); (try clear hb ho0); obtain ⟨Ao8, co8, eo8⟩ := Kd.R_slice HO134.out; subst eo8) | ((with_reducible refine gate_builtin (b := .append) (xs := #[.tmp 15, .tmp 16]) rfl ?_); at_builtin; refine Kd.R_append_rows (Kd.int .u8) (w0 := w0) w0.heap.size rfl (.tmp 15) (.tmp 16) 25 5 (.int .u8 0) 1 rfl Try.underlying25 info5 rfl (by decide) (by omega) u9000_ l0 t131 _ _ _ (ok25_1 P0_ w (.slice Ao8 t131.length co8)) (fun _ => False) rfl rfl ?aO ?aR (fun _ _ h => h) (fun _ h => h.elim) ?aF ?aB ?aS ?aL ?_; (case aR => exact Ext.nC (Kd.R_reads' HO134.out).2.2); (case aB => exact (Ext.nB HB.out)); (case aF => exact (fun k_ hk => ⟨(.inr (Nat.le_trans (by first | exact HK.out.1 | exact (show Kept w _ (fun k_ => P0_ k_) from by repeat (first | (with_reducible first | exact HK.out | apply Kept.alloc | apply Kept.drewN | apply Kept.drew) | exact HK.out)).1) hk)), Kd.fresh' (Kd.R_lt (Ext.nR HO134.out)) k_ hk⟩)); (case aO => exact (Ext.nR HO0.out)); (case aS => exact (below_size (Ext.nB HB.out))); (case aL => have := LMc5.out; omega); intro v136 w7 ho hb hg hat; rw [← Ny135.out] at ho; replace HO134 := Ext.a (Kd.R_after (ok := (ok25_0 P0_ w)) (Ext.nR (Kd.R_mono HO134.out (fun _ hk => ⟨hk.1.1, hk.2⟩))) hg hat); replace HB := Ext.a (hb); replace HK := Ext.a (Kept.of_grown (S := (fun k_ => P0_ k_)) hg (by repeat (first | (with_reducible first | exact HK.out | apply Kept.alloc | apply Kept.drewN | apply Kept.drew) | exact HK.out)) (fun k_ e_ => (HO0.out.1 k_ e_).1)); have HO137 := Ext.a (ho); clear HO0; clear ho hb hg hat))
  go_ret
  exact ⟨_, by first | rfl | (simp [errW_none, errW_some] <;> rfl) | (simp [*, errW_none, errW_some] <;> rfl), by (with_reducible repeat (first | apply Kd.R_alloc | apply Kd.R_drewN | apply Kd.R_drew)); exact Kd.R_mono HO137.out (fun _ hk => hk.1), by exact Ext.nB HB.out, by repeat (first | (with_reducible first | exact HK.out | apply Kept.alloc | apply Kept.drewN | apply Kept.drew) | exact HK.out)⟩
 · rw [if_neg c5] at H; exact absurd H (by simp)

/-! ### sum_half: function 47 -/
def halfS (low x i c : Int) : Int := if (Go.bits .and .u32 (low / 2 ^ i.toNat) 1 == 1) = true then Go.bits .xor .u32 c x else c
def halfN (a : Int) (j : Int) : Int :=
  let low := Go.bits .and .u32 a 15
  if j = 0 then a / 16 else if j = 1 then halfS low 274646895 0 (a / 16) else if j = 2 then halfS low 549293790 1 (halfS low 274646895 0 (a / 16))
  else if j = 3 then halfS low 1098587580 2 (halfS low 549293790 1 (halfS low 274646895 0 (a / 16)))
  else halfS low 2197175160 3 (halfS low 1098587580 2 (halfS low 549293790 1 (halfS low 274646895 0 (a / 16))))
def sum_half.f (a0 : Int) : Option Int := some (halfN a0 4)
set_option maxHeartbeats 8000000 in
set_option maxRecDepth 100000 in
theorem sum_half.calls (a0 : Int) (r : Int) (w : World) (h : sum_half.f a0 = some r) :
    Calls Try.prog 47 #[.int .u32 a0] w fun e w' => e = .returned (.int .u32 r) ∧ Drawn0 w w' := by
  obtain rfl := Option.some.inj h; clear h
  have ix : ∀ W : World, ∀ j : Int, (j = 0 ∨ j = 1 ∨ j = 2 ∨ j = 3) → (Instr.index 90 (.agg #[.int .u32 274646895, .int .u32 549293790, .int .u32 1098587580, .int .u32 2197175160]) (.int .i64 j)).run Try.prog W = .ok (.int .u32 (if j = 0 then 274646895 else if j = 1 then 549293790 else if j = 2 then 1098587580 else 2197175160)) W := by
    intro W j hj
    rcases hj with rfl | rfl | rfl | rfl <;> rfl
  have ix0 := fun W => ix W 0 (by omega)
  have ix1 := fun W => ix W 1 (by omega)
  have ix2 := fun W => ix W 2 (by omega)
  have ix3 := fun W => ix W 3 (by omega)
  clear ix; simp only [Int.reduceEq, if_true, if_false] at ix0 ix1 ix2 ix3
  go_enter Try.func47, Try.ntmps47
  go_wp2
  go_loop [0, 11] (fun v0 v11 => ∃ j : Int, 0 ≤ j ∧ j ≤ 4 ∧ v0 = .int .u32 (halfN a0 j) ∧ v11 = .int .i64 j) (fun _ v11 => 4 - (intOf v11).toNat)
  case atStart => exact ⟨0, by omega, by omega, by simp [halfN], rfl⟩
  case round =>
    obtain ⟨j, hj0, hj, rfl, rfl⟩ := hrel
    have hc : j = 0 ∨ j = 1 ∨ j = 2 ∨ j = 3 ∨ j = 4 := by omega
    rcases hc with rfl | rfl | rfl | rfl | rfl
    · go_wp2
      all_goals first | (rename_i hcond; refine ⟨⟨1, by omega, by omega, ?_, rfl⟩, by simp [intOf]⟩; simp only [halfN, halfS] at *; simp_all; done) | trace_state
    · go_wp2
      all_goals first | (rename_i hcond; refine ⟨⟨2, by omega, by omega, ?_, rfl⟩, by simp [intOf]⟩; simp only [halfN, halfS] at *; simp_all; done) | trace_state
    · go_wp2
      all_goals first | (rename_i hcond; refine ⟨⟨3, by omega, by omega, ?_, rfl⟩, by simp [intOf]⟩; simp only [halfN, halfS] at *; simp_all; done) | trace_state
    · go_wp2
      all_goals first | (rename_i hcond; refine ⟨⟨4, by omega, by omega, ?_, rfl⟩, by simp [intOf]⟩; simp only [halfN, halfS] at *; simp_all; done) | trace_state
    · go_wp2
      go_ret
      exact ⟨rfl, Drawn0.refl _⟩

end Go.Proofs.Ytandeendeoempaa.PC
