-- Written by wip/printx.py, a program of this work over the kit's print, for this claim.
import Derived.Test.YtlhjdmpclfhoeaaPKx0
import Derived.Test.YtlhjdmpclfhoeaaPKx10
import Derived.Test.YtlhjdmpclfhoeaaPKx11
namespace Go.Proofs.Ytlhjdmpclfhoeaa.PK
open Go.RowKit Go.Proofs.YtlhjdmpclfhoeaaW.PrintWords Go.Proofs.YtlhjdmpclfhoeaaW.PrintLast Go.Proofs.YtlhjdmpclfhoeaaW.PrintMore
attribute [local go_sem] max2_int min2_int max_two min_two max_three min_three max_four min_four   -- for this text's walks alone
attribute [local go_sem] Ext.pick_u8 Ext.pick_u32 Ext.pick_u64
set_option linter.unusedVariables false
set_option linter.unusedSimpArgs false



/-! ### octets_Reader_Flag: function 55 -/
def octets_Reader_Flag.f (k : Nat) (s0_0 : List Int) (s0_1 : Int) (s0_2 : Int) : Option (Bool × Int × Int) := (octets_Reader_over.f s0_0 s0_1 s0_2).bind fun bt289 => (if bt289.1 = true then (some (false, bt289.2.1, bt289.2.2)) else ((octets_Reader_Num.f k s0_0 bt289.2.1 bt289.2.2 1).bind fun bt292 => (if bt292.1 > 1 then (if bt292.1 = 1 then (some ((4 == 0), wrap64 (bt292.2.1 - 1), 4)) else (some (false, wrap64 (bt292.2.1 - 1), 4))) else (if bt292.1 = 1 then (some ((bt292.2.2 == 0), bt292.2.1, bt292.2.2)) else (some (false, bt292.2.1, bt292.2.2))))))
theorem octets_Reader_Flag.mono : ∀ a0 a1 a2 k, LeO (octets_Reader_Flag.f k a0 a1 a2) (octets_Reader_Flag.f (k + 1) a0 a1 a2) := by
 intro a0 a1 a2 k
 unfold octets_Reader_Flag.f
 repeat' first
   | (with_reducible exact octets_Reader_Num.mono _ _ _ _ _)
   | (with_reducible exact LeO.refl _)
   | (with_reducible exact LeO.none _)
   | (with_reducible refine LeO.ite ?_ ?_)
   | (with_reducible refine LeO.bind ?_ (fun _ => ?_))
   | exact octets_Reader_Num.mono _ _ _ _ _
   | exact LeO.none _
   | refine LeO.ite ?_ ?_
   | refine LeO.bind ?_ (fun _ => ?_)
set_option maxHeartbeats 8000000 in
set_option maxRecDepth 100000 in
theorem octets_Reader_Flag.calls (k : Nat) (g : Nat) (s0_0 : List Int) (s0_1 : Int) (s0_2 : Int) (r1 : Bool) (r2 : Int) (r3 : Int) (w0 w : World) (hI : IsS96 w0 w g s0_0 s0_1 s0_2) (hB : Below w0.heap.size w0 w) (h : octets_Reader_Flag.f k s0_0 s0_1 s0_2 = some (r1, r2, r3)) :
  Calls Try.prog 55 #[.pointer (some ⟨g, 0, none⟩)] w fun e w' => e = .returned (.bool r1) ∧ IsS96 w0 w' g s0_0 r2 r3 ∧ Below w0.heap.size w0 w' ∧ KeepBut w w' g none := by
 have HI0 := Aside0.mk hI; have HK := Ext.a (KeepBut.refl w g none); have HL := Aside0.mk hB.size; clear hI; have HW0 := Aside0.mk hB.size; have HB := Aside0.mk hB; clear hB; have H := h; unfold octets_Reader_Flag.f at H; clear h; replace H := Option.bind_eq_some_iff.mp H; obtain ⟨⟨t289, t290, t291⟩, A20, H⟩ := H; (try dsimp only at H); have A2 := Aside0.mk A20; clear A20
 by_cases c3 : t289 = true
 ·
  subst c3; rw [if_pos rfl] at H; simp only [Option.some.injEq, Prod.mk.injEq] at H; obtain ⟨rfl, rfl, rfl⟩ := H
  go_enter Try.func55, Try.ntmps55
  go_wp2_with (first | ((with_reducible refine gate_callee (f := 64) rfl ?_); refine Ext.gs (some 5) rfl rfl Try.func64 #[.pointer (some ⟨g, 0, none⟩)] rfl ?_; (with_reducible refine (octets_Reader_over.calls g s0_0 s0_1 s0_2 true t290 t291 w0 _ ?side1 ?side2 A2.out).mono ?_); (case side1 => exact IsS96.go HI0.out); (case side2 => exact Ext.s1 (IsS96.ge HI0.out) HB.out); rintro e w4 ⟨rfl, hi, hb, hk⟩; refine ⟨_, rfl, ?_⟩; replace HK := Ext.a (KeepBut.trans (Ext.k0 HK.out) hk (.inl rfl)); replace HB := Ext.a (hb); replace HI0 := Ext.a (hi); (try clear hb hk hi)))
  go_ret
  exact ⟨by first | rfl | (simp [errW_none, errW_some] <;> rfl) | (simp [*, errW_none, errW_some] <;> rfl), by exact IsS96.go HI0.out, by exact Ext.s1 (IsS96.ge HI0.out) HB.out, by exact Ext.k0 HK.out⟩
 ·
  replace c3 := Bool.eq_false_iff.mpr c3; subst c3; rw [if_neg Bool.false_ne_true] at H; replace H := Option.bind_eq_some_iff.mp H; obtain ⟨⟨t292, t293, t294⟩, A50, H⟩ := H; (try dsimp only at H); have A5 := Aside0.mk A50; clear A50
  by_cases c6 : t292 > 1
  ·
   rw [if_pos c6] at H; have c6b0 := decide_eq_true c6; clear c6
   by_cases c7 : t292 = 1
   case' _ =>
    rw [if_pos c7] at H; obtain ⟨c7b0, c7b1⟩ := Ext.eT c7; clear c7
   rotate_left 1
   case' _ =>
    rw [if_neg c7] at H; obtain ⟨c7b0, c7b1⟩ := Ext.eF c7
   all_goals (simp only [Option.some.injEq, Prod.mk.injEq] at H; obtain ⟨rfl, rfl, rfl⟩ := H; go_enter Try.func55, Try.ntmps55; go_wp2_with (first | ((with_reducible refine gate_callee (f := 64) rfl ?_); refine Ext.gs (some 5) rfl rfl Try.func64 #[.pointer (some ⟨g, 0, none⟩)] rfl ?_; (with_reducible refine (octets_Reader_over.calls g s0_0 s0_1 s0_2 false t290 t291 w0 _ ?side1 ?side2 A2.out).mono ?_); (case side1 => exact IsS96.go HI0.out); (case side2 => exact Ext.s1 (IsS96.ge HI0.out) HB.out); rintro e q0_ ⟨rfl, hi, hb, hk⟩; refine ⟨_, rfl, ?_⟩; replace HK := Ext.a (KeepBut.trans (Ext.k0 HK.out) hk (.inl rfl)); replace HB := Ext.a (hb); replace HI0 := Ext.a (hi); (try clear hb hk hi)) | ((with_reducible refine gate_callee (f := 59) rfl ?_); refine Ext.gs (some 7) rfl rfl Try.func59 #[.pointer (some ⟨g, 0, none⟩), .int .i64 1] rfl ?_; (with_reducible refine (octets_Reader_Num.calls k g s0_0 t290 t291 1 t292 t293 t294 w0 _ ?side1 ?side2 A5.out).mono ?_); (case side1 => exact IsS96.go HI0.out); (case side2 => exact Ext.s1 (IsS96.ge HI0.out) HB.out); rintro e q1_ ⟨rfl, hi, hb, hk⟩; refine ⟨_, rfl, ?_⟩; replace HK := Ext.a (KeepBut.trans (Ext.k0 HK.out) hk (.inl rfl)); replace HB := Ext.a (hb); replace HI0 := Ext.a (hi); (try clear hb hk hi); obtain ⟨q2_, q3_, q4_, q5_, q6_⟩ := HI0.out; have q7_ := cellS96_0 q4_; have q8_ := cellS96_1 q4_; have q9_ := cellS96_2 q4_; have q10_ := blk_frozen q4_ 1; have q11_ := blk_frozen q4_ 2; clear q4_ q5_)); go_ret; exact ⟨by first | rfl | (simp [errW_none, errW_some] <;> rfl) | (simp [*, errW_none, errW_some] <;> rfl), by exact IsS96.go HI0.out, by exact Ext.s1 (IsS96.ge HI0.out) HB.out, by exact Ext.k0 HK.out⟩)
  ·
   rw [if_neg c6] at H; have c6b0 := decide_eq_false c6; clear c6
   by_cases c14 : t292 = 1
   ·
    rw [if_pos c14] at H; obtain ⟨c14b0, c14b1⟩ := Ext.eT c14; clear c14; simp only [Option.some.injEq, Prod.mk.injEq] at H; obtain ⟨rfl, rfl, rfl⟩ := H
    go_enter Try.func55, Try.ntmps55
    go_wp2_with (first | ((with_reducible refine gate_callee (f := 64) rfl ?_); refine Ext.gs (some 5) rfl rfl Try.func64 #[.pointer (some ⟨g, 0, none⟩)] rfl ?_; (with_reducible refine (octets_Reader_over.calls g s0_0 s0_1 s0_2 false t290 t291 w0 _ ?side1 ?side2 A2.out).mono ?_); (case side1 => exact IsS96.go HI0.out); (case side2 => exact Ext.s1 (IsS96.ge HI0.out) HB.out); rintro e w15 ⟨rfl, hi, hb, hk⟩; refine ⟨_, rfl, ?_⟩; replace HK := Ext.a (KeepBut.trans (Ext.k0 HK.out) hk (.inl rfl)); replace HB := Ext.a (hb); replace HI0 := Ext.a (hi); (try clear hb hk hi)) | ((with_reducible refine gate_callee (f := 59) rfl ?_); refine Ext.gs (some 7) rfl rfl Try.func59 #[.pointer (some ⟨g, 0, none⟩), .int .i64 1] rfl ?_; (with_reducible refine (octets_Reader_Num.calls k g s0_0 t290 t291 1 t292 t293 t294 w0 _ ?side1 ?side2 A5.out).mono ?_); (case side1 => exact IsS96.go HI0.out); (case side2 => exact Ext.s1 (IsS96.ge HI0.out) HB.out); rintro e w16 ⟨rfl, hi, hb, hk⟩; refine ⟨_, rfl, ?_⟩; replace HK := Ext.a (KeepBut.trans (Ext.k0 HK.out) hk (.inl rfl)); replace HB := Ext.a (hb); replace HI0 := Ext.a (hi); (try clear hb hk hi); obtain ⟨ASz17_0, cSz17_0, HGz17, hgz17, HSz17_0⟩ := HI0.out; have hcz17_0 := cellS96_0 HGz17; have hcz17_1 := cellS96_1 HGz17; have hcz17_2 := cellS96_2 HGz17; have hfz17_1 := blk_frozen HGz17 1; have hfz17_2 := blk_frozen HGz17 2; clear HGz17 hgz17))
    go_ret
    exact ⟨by first | rfl | (simp [errW_none, errW_some] <;> rfl) | (simp [*, errW_none, errW_some] <;> rfl), by exact IsS96.go HI0.out, by exact Ext.s1 (IsS96.ge HI0.out) HB.out, by exact Ext.k0 HK.out⟩
   ·
    rw [if_neg c14] at H; obtain ⟨c14b0, c14b1⟩ := Ext.eF c14; simp only [Option.some.injEq, Prod.mk.injEq] at H; obtain ⟨rfl, rfl, rfl⟩ := H
    go_enter Try.func55, Try.ntmps55
    go_wp2_with (first | ((with_reducible refine gate_callee (f := 64) rfl ?_); refine Ext.gs (some 5) rfl rfl Try.func64 #[.pointer (some ⟨g, 0, none⟩)] rfl ?_; (with_reducible refine (octets_Reader_over.calls g s0_0 s0_1 s0_2 false t290 t291 w0 _ ?side1 ?side2 A2.out).mono ?_); (case side1 => exact IsS96.go HI0.out); (case side2 => exact Ext.s1 (IsS96.ge HI0.out) HB.out); rintro e w18 ⟨rfl, hi, hb, hk⟩; refine ⟨_, rfl, ?_⟩; replace HK := Ext.a (KeepBut.trans (Ext.k0 HK.out) hk (.inl rfl)); replace HB := Ext.a (hb); replace HI0 := Ext.a (hi); (try clear hb hk hi)) | ((with_reducible refine gate_callee (f := 59) rfl ?_); refine Ext.gs (some 7) rfl rfl Try.func59 #[.pointer (some ⟨g, 0, none⟩), .int .i64 1] rfl ?_; (with_reducible refine (octets_Reader_Num.calls k g s0_0 t290 t291 1 t292 t293 t294 w0 _ ?side1 ?side2 A5.out).mono ?_); (case side1 => exact IsS96.go HI0.out); (case side2 => exact Ext.s1 (IsS96.ge HI0.out) HB.out); rintro e w19 ⟨rfl, hi, hb, hk⟩; refine ⟨_, rfl, ?_⟩; replace HK := Ext.a (KeepBut.trans (Ext.k0 HK.out) hk (.inl rfl)); replace HB := Ext.a (hb); replace HI0 := Ext.a (hi); (try clear hb hk hi)))
    go_ret
    exact ⟨by first | rfl | (simp [errW_none, errW_some] <;> rfl) | (simp [*, errW_none, errW_some] <;> rfl), by exact IsS96.go HI0.out, by exact Ext.s1 (IsS96.ge HI0.out) HB.out, by exact Ext.k0 HK.out⟩

end Go.Proofs.Ytlhjdmpclfhoeaa.PK
