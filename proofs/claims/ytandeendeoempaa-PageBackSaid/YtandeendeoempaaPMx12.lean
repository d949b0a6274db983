-- Written by wip/printx.py, a program of this work over the kit's print, for this claim.
import Derived.Test.YtandeendeoempaaPMx0
import Derived.Test.YtandeendeoempaaPMx11
namespace Go.Proofs.Ytandeendeoempaa.PM
open Go.RowKit Go.Proofs.YtandeendeoempaaW.PrintWords Go.Proofs.YtandeendeoempaaW.PrintLast Go.Proofs.YtandeendeoempaaW.PrintMore
attribute [local go_sem] max2_int min2_int max_two min_two max_three min_three max_four min_four   -- for this text's walks alone
attribute [local go_sem] Ext.pick_u8 Ext.pick_u32 Ext.pick_u64
set_option linter.unusedVariables false
set_option linter.unusedSimpArgs false

@[reducible] def zb38_0 : Array Bool := #[false, false, false, false, false, false, false, false, false, false, false, false, false, false, false, false]
@[reducible] def zb38_1 : Array Bool := #[true, false, false, false, false, false, false, false, false, false, false, false, false, false, false, false]
@[reducible] def zb38_2 : Array Bool := #[true, true, false, false, false, false, false, false, false, false, false, false, false, false, false, false]
@[reducible] def zb38_3 : Array Bool := #[true, true, true, false, false, false, false, false, false, false, false, false, false, false, false, false]
@[reducible] def zb38_4 : Array Bool := #[true, true, true, true, false, false, false, false, false, false, false, false, false, false, false, false]
@[reducible] def zb38_5 : Array Bool := #[true, true, true, true, true, false, false, false, false, false, false, false, false, false, false, false]
@[reducible] def zb38_6 : Array Bool := #[true, true, true, true, true, true, false, false, false, false, false, false, false, false, false, false]
@[reducible] def zb38_7 : Array Bool := #[true, true, true, true, true, true, true, false, false, false, false, false, false, false, false, false]
@[reducible] def zb38_8 : Array Bool := #[true, true, true, true, true, true, true, true, true, true, true, true, false, false, false, false]
@[reducible] def zb38_9 : Array Bool := #[true, true, true, true, true, true, true, true, true, true, true, true, true, false, false, false]
@[reducible] def zb38_10 : Array Bool := #[true, true, true, true, true, true, true, true, true, true, true, true, true, true, false, false]
@[reducible] def zb38_11 : Array Bool := #[true, true, true, true, true, true, true, true, true, true, true, true, true, true, true, false]
@[reducible] def zb38_12 : Array Bool := #[true, true, true, true, true, true, true, true, true, true, true, true, true, true, true, true]
@[reducible] def zb38_13 : Array Bool := #[true, true, true, true, true, true, true, false, false, true, false, false, false, false, false, false]
@[reducible] def zb38_14 : Array Bool := #[true, true, true, true, true, true, true, false, false, true, true, false, false, false, false, false]
@[reducible] def zb38_15 : Array Bool := #[true, true, true, true, true, true, true, false, false, true, true, true, false, false, false, false]
@[reducible] def zb38_16 : Array Bool := #[true, true, true, true, true, true, true, true, false, true, true, true, false, false, false, false]

/-! ### octets_Reader_Bytes: function 38 -/
def octets_Reader_Bytes.f (s0_0 : List Int) (s0_1 : Int) (s0_2 : Int) (a1 : Int) : Option (List Int × Int × Int) := (octets_Reader_over.f s0_0 s0_1 s0_2).bind fun bt289 => (if bt289.1 = true then (some (([] : List Int), bt289.2.1, bt289.2.2)) else (if a1 < 0 then (some (([] : List Int), bt289.2.1, 3)) else (if a1 > (wrap64 ((s0_0.length : Int) - bt289.2.1)) then (some (([] : List Int), bt289.2.1, 3)) else ((some (([] : List Int) : List Int)).bind fun y292 => (if 0 ≤ (wrap64 ((wrap64 (bt289.2.1 + a1)) - a1)) then (if (wrap64 ((wrap64 (bt289.2.1 + a1)) - a1)) ≤ (wrap64 (bt289.2.1 + a1)) then (if (wrap64 (bt289.2.1 + a1)) ≤ (s0_0.length : Int) then ((some ((s0_0.take ((wrap64 (bt289.2.1 + a1)) : Int).toNat).drop ((wrap64 ((wrap64 (bt289.2.1 + a1)) - a1)) : Int).toNat : List Int)).bind fun y295 => (if y292.length + y295.length < 140737488355328 then (some ((y292 ++ y295), wrap64 (bt289.2.1 + a1), bt289.2.2)) else (none))) else (none)) else (none)) else (none))))))
def octets_Reader_Bytes.T3 : Bool × List (List Nat × List Nat) := (true, [([], []), ([0], [0]), ([1], [1]), ([2], [2]), ([2], [2]), ([4, 2], [2, 4]), ([5, 2], [2, 5]), ([6, 2], [2, 6]), ([7, 2], [2, 7]), ([2], [2]), ([9, 2], [2, 9]), ([10, 2], [2, 10]), ([11, 2], [2, 11]), ([8, 12, 2], [2, 8, 12]), ([3, 13, 2], [2, 3, 13]), ([2, 14], [2, 14])])
def octets_Reader_Bytes.B3 : List Nat := [0, 1, 3, 7, 7, 23, 55, 119, 247, 7, 519, 1543, 3591, 8183, 16383, 32767]
theorem octets_Reader_Bytes.tab3 : rtab .any (opsOf Try.f38 3) = octets_Reader_Bytes.T3 := by kernel_rfl
theorem octets_Reader_Bytes.bits3 : waitsOk octets_Reader_Bytes.T3.2 octets_Reader_Bytes.B3 = true := by kernel_rfl
def octets_Reader_Bytes.T7 : Bool × List (List Nat × List Nat) := (true, [([], []), ([], []), ([1], [1]), ([2], [2]), ([3], [3]), ([], []), ([5], [5]), ([6], [6]), ([7], [7]), ([], []), ([8, 9], [8, 9]), ([], []), ([11], [11]), ([12], [12]), ([13], [13]), ([4, 10, 14], [4, 10, 14]), ([0, 15], [0, 15]), ([16, 16, 0, 1, 2, 3, 4, 5, 6, 7, 8, 9, 10, 11, 12, 13, 14, 15, 16], [16])])
def octets_Reader_Bytes.B7 : List Nat := [0, 0, 2, 6, 14, 0, 32, 96, 224, 0, 992, 0, 2048, 6144, 14336, 32766, 65535, 131071]
theorem octets_Reader_Bytes.tab7 : rtab .any (opsOf Try.f38 7) = octets_Reader_Bytes.T7 := by kernel_rfl
theorem octets_Reader_Bytes.bits7 : waitsOk octets_Reader_Bytes.T7.2 octets_Reader_Bytes.B7 = true := by kernel_rfl
set_option maxHeartbeats 8000000 in
set_option maxRecDepth 100000 in
theorem octets_Reader_Bytes.calls (g : Nat) (s0_0 : List Int) (s0_1 : Int) (s0_2 : Int) (a1 : Int) (r1 : List Int) (r2 : Int) (r3 : Int) (w0 w : World) (hI : IsS89 w0 w g s0_0 s0_1 s0_2) (hB : Below w0.heap.size w0 w) (h : octets_Reader_Bytes.f s0_0 s0_1 s0_2 a1 = some (r1, r2, r3)) :
  Calls Try.prog 38 #[.pointer (some ⟨g, 0, none⟩), .int .i64 a1] w fun e w' => ∃ v0_ : Value, e = .returned (v0_) ∧ Kd.R (Kd.int .u8) 5 w' w.heap.size (fun _ => True) v0_ r1 ∧ IsS89 w0 w' g s0_0 r2 r3 ∧ Below w0.heap.size w0 w' ∧ KeepBut w w' g none := by
 have HI0 := Aside0.mk hI; have HK := Ext.a (KeepBut.refl w g none); have HL := Aside0.mk hB.size; clear hI; have HW0 := Aside0.mk hB.size; have HB := Aside0.mk hB; clear hB; have H := h; unfold octets_Reader_Bytes.f at H; clear h; replace H := Option.bind_eq_some_iff.mp H; obtain ⟨⟨t289, t290, t291⟩, A30, H⟩ := H; (try dsimp only at H); have A3 := Aside0.mk A30; clear A30
 by_cases c4 : t289 = true
 ·
  subst c4; rw [if_pos rfl] at H; simp only [Option.some.injEq, Prod.mk.injEq] at H; obtain ⟨rfl, rfl, rfl⟩ := H
  go_enter Try.func38, Try.ntmps38
  go_wp2_with (first | ((with_reducible refine gate_callee (f := 48) rfl ?_); refine Ext.gs (some 6) rfl rfl Try.func48 #[.pointer (some ⟨g, 0, none⟩)] rfl ?_; (with_reducible refine (octets_Reader_over.calls g s0_0 s0_1 s0_2 true t290 t291 w0 _ ?side1 ?side2 A3.out).mono ?_); (case side1 => exact IsS89.go HI0.out); (case side2 => exact Ext.s1 (IsS89.ge HI0.out) HB.out); rintro e w5 ⟨rfl, hi, hb, hk⟩; refine ⟨_, rfl, ?_⟩; replace HK := Ext.a (KeepBut.trans (Ext.k0 HK.out) hk (.inl rfl)); replace HB := Ext.a (hb); replace HI0 := Ext.a (hi); (try clear hb hk hi)))
  go_ret
  exact ⟨_, by first | rfl | (simp [errW_none, errW_some] <;> rfl) | (simp [*, errW_none, errW_some] <;> rfl), by first | exact Ext.nl | exact Kd.R_nil _ _ _ _ _, by exact IsS89.go HI0.out, by exact Ext.s1 (IsS89.ge HI0.out) HB.out, by exact Ext.k0 HK.out⟩
 ·
  replace c4 := Bool.eq_false_iff.mpr c4; subst c4; rw [if_neg Bool.false_ne_true] at H
  by_cases c6 : a1 < 0
  ·
   rw [if_pos c6] at H; have c6b0 := decide_eq_true c6; clear c6; simp only [Option.some.injEq, Prod.mk.injEq] at H; obtain ⟨rfl, rfl, rfl⟩ := H
   go_enter Try.func38, Try.ntmps38
   try go_wp2_with (first | ((with_reducible refine gate_callee (f := 48) rfl ?_); refine Ext.gs (some 6) rfl rfl Try.func48 #[.pointer (some ⟨g, 0, none⟩)] rfl ?_; (with_reducible refine (octets_Reader_over.calls g s0_0 s0_1 s0_2 false t290 t291 w0 _ ?side1 ?side2 A3.out).mono ?_); (case side1 => exact IsS89.go HI0.out); (case side2 => exact Ext.s1 (IsS89.ge HI0.out) HB.out); rintro e w7 ⟨rfl, hi, hb, hk⟩; refine ⟨_, rfl, ?_⟩; replace HK := Ext.a (KeepBut.trans (Ext.k0 HK.out) hk (.inl rfl)); replace HB := Ext.a (hb); replace HI0 := Ext.a (hi); (try clear hb hk hi)))
   replace HI0 := Ext.a (IsS89.drew HI0.out); replace HK := Ext.a (keep_drew HK.out); replace HB := Ext.a (below_drew1 HB.out); refine start_ (n := 16) (S := fun w' => True) (ds := []) zb38_0 (by kernel_rfl) rfl rfl trivial (fun hHeld => ?_); refine with_tabW octets_Reader_Bytes.tab3 octets_Reader_Bytes.bits3 (fun HT_ HW_ => ?_); generalize w7.drew = w8 at HI0 HK HB hHeld ⊢; refine pure_ (i := 0) (N := some 7) (v := ?_) (a' := ?_) zb38_1 rfl rfl (any_of HT_.out (by kernel_rfl)) (fun _ _ _ h => h) (Or.inl ⟨by rfl, ?_⟩) ?_ ?_; rotate_left
   · intro w'; go_simp; with_reducible rfl
   rotate_left
   · simp only [Act.put, Ext.sb, Ext.sz, Ext.ss, i64_w, i32_w]; rfl
   refine pure_ (i := 1) (N := some 8) (v := ?_) (a' := ?_) zb38_2 rfl rfl (any_of HT_.out (by kernel_rfl)) (fun _ _ _ h => h) (Or.inl ⟨by rfl, ?_⟩) ?_ ?_; rotate_left
   · intro w'; go_simp; with_reducible rfl
   rotate_left
   · simp only [Act.put, Ext.sb, Ext.sz, Ext.ss, i64_w, i32_w]; rfl
   refine pure_ (i := 2) (N := some 9) (v := ?_) (a' := ?_) zb38_3 rfl rfl (any_of HT_.out (by kernel_rfl)) (fun _ _ _ h => h) (Or.inl ⟨by rfl, ?_⟩) ?_ ?_; rotate_left
   · intro w'; go_simp; with_reducible rfl
   rotate_left
   · simp only [Act.put, Ext.sb, Ext.sz, Ext.ss, i64_w, i32_w]; rfl
   refine pure_ (i := 3) (N := some 10) (v := undef) (a' := ?_) zb38_4 rfl rfl (any_of HT_.out (by kernel_rfl)) (fun _ _ _ h => h) (Or.inr ⟨by rfl, rfl⟩) ?_ ?_; rotate_left
   · simp only [Act.put, Ext.sb, Ext.sz, Ext.ss, i64_w, i32_w]; rfl
   refine pure_ (i := 4) (N := some 11) (v := undef) (a' := ?_) zb38_5 rfl rfl (any_of HT_.out (by kernel_rfl)) (fun _ _ _ h => h) (Or.inr ⟨by rfl, rfl⟩) ?_ ?_; rotate_left
   · simp only [Act.put, Ext.sb, Ext.sz, Ext.ss, i64_w, i32_w]; rfl
   refine pure_ (i := 5) (N := some 12) (v := undef) (a' := ?_) zb38_6 rfl rfl (any_of HT_.out (by kernel_rfl)) (fun _ _ _ h => h) (Or.inr ⟨by rfl, rfl⟩) ?_ ?_; rotate_left
   · simp only [Act.put, Ext.sb, Ext.sz, Ext.ss, i64_w, i32_w]; rfl
   refine pure_ (i := 6) (N := some 13) (v := undef) (a' := ?_) zb38_7 rfl rfl (any_of HT_.out (by kernel_rfl)) (fun _ _ _ h => h) (Or.inr ⟨by rfl, rfl⟩) ?_ ?_; rotate_left
   · simp only [Act.put, Ext.sb, Ext.sz, Ext.ss, i64_w, i32_w]; rfl
   refine pure_ (i := 7) (N := some 14) (v := undef) (a' := ?_) #[true, true, true, true, true, true, true, true, false, false, false, false, false, false, false, false] rfl rfl (any_of HT_.out (by kernel_rfl)) (fun _ _ _ h => h) (Or.inr ⟨by rfl, rfl⟩) ?_ ?_; rotate_left
   · simp only [Act.put, Ext.sb, Ext.sz, Ext.ss, i64_w, i32_w]; rfl
   refine pure_ (i := 8) (N := some 15) (v := undef) (a' := ?_) #[true, true, true, true, true, true, true, true, true, false, false, false, false, false, false, false] rfl rfl (any_of HT_.out (by kernel_rfl)) (fun _ _ _ h => h) (Or.inr ⟨by rfl, rfl⟩) ?_ ?_; rotate_left
   · simp only [Act.put, Ext.sb, Ext.sz, Ext.ss, i64_w, i32_w]; rfl
   refine pure_ (i := 9) (N := some 16) (v := undef) (a' := ?_) #[true, true, true, true, true, true, true, true, true, true, false, false, false, false, false, false] rfl rfl (any_of HT_.out (by kernel_rfl)) (fun _ _ _ h => h) (Or.inr ⟨by rfl, rfl⟩) ?_ ?_; rotate_left
   · simp only [Act.put, Ext.sb, Ext.sz, Ext.ss, i64_w, i32_w]; rfl
   refine pure_ (i := 10) (N := some 17) (v := undef) (a' := ?_) #[true, true, true, true, true, true, true, true, true, true, true, false, false, false, false, false] rfl rfl (any_of HT_.out (by kernel_rfl)) (fun _ _ _ h => h) (Or.inr ⟨by rfl, rfl⟩) ?_ ?_; rotate_left
   · simp only [Act.put, Ext.sb, Ext.sz, Ext.ss, i64_w, i32_w]; rfl
   refine pure_ (i := 11) (N := some 18) (v := undef) (a' := ?_) zb38_8 rfl rfl (any_of HT_.out (by kernel_rfl)) (fun _ _ _ h => h) (Or.inr ⟨by rfl, rfl⟩) ?_ ?_; rotate_left
   · simp only [Act.put, Ext.sb, Ext.sz, Ext.ss, i64_w, i32_w]; rfl
   refine pure_ (i := 12) (N := some 19) (v := undef) (a' := ?_) zb38_9 rfl rfl (any_of HT_.out (by kernel_rfl)) (fun _ _ _ h => h) (Or.inr ⟨by rfl, rfl⟩) ?_ ?_; rotate_left
   · simp only [Act.put, Ext.sb, Ext.sz, Ext.ss, i64_w, i32_w]; rfl
   refine pure_ (i := 13) (N := some 20) (v := undef) (a' := ?_) zb38_10 rfl rfl (any_of HT_.out (by kernel_rfl)) (fun _ _ _ h => h) (Or.inr ⟨by rfl, rfl⟩) ?_ ?_; rotate_left
   · simp only [Act.put, Ext.sb, Ext.sz, Ext.ss, i64_w, i32_w]; rfl
   refine pure_ (i := 14) (N := some 21) (v := undef) (a' := ?_) zb38_11 rfl rfl (any_of HT_.out (by kernel_rfl)) (fun _ _ _ h => h) (Or.inr ⟨by rfl, rfl⟩) ?_ ?_; rotate_left
   · simp only [Act.put, Ext.sb, Ext.sz, Ext.ss, i64_w, i32_w]; rfl
   refine pure_ (i := 15) (N := some 22) (v := ?_) (a' := ?_) zb38_12 rfl rfl (any_of HT_.out (by kernel_rfl)) (fun _ _ _ h => h) (Or.inl ⟨by rfl, ?_⟩) ?_ ?_; rotate_left
   · intro w'; go_simp; with_reducible rfl
   rotate_left
   · simp only [Act.put, Ext.sb, Ext.sz, Ext.ss, i64_w, i32_w]; rfl
   refine done_ (done_of HT_.out (by kernel_rfl)) ?_; obtain ⟨ASz9_0, cSz9_0, HGz9, hgz9, HSz9_0⟩ := HI0.out; have hcz9_0 := cellS89_0 HGz9; have hcz9_1 := cellS89_1 HGz9; have hcz9_2 := cellS89_2 HGz9; have hfz9_1 := blk_frozen HGz9 1; have hfz9_2 := blk_frozen HGz9 2; clear HGz9 hgz9
   try go_wp2
   go_ret
   exact ⟨_, by first | rfl | (simp [errW_none, errW_some] <;> rfl) | (simp [*, errW_none, errW_some] <;> rfl), by first | exact Ext.nl | exact Kd.R_nil _ _ _ _ _, by exact IsS89.go HI0.out, by exact Ext.s1 (IsS89.ge HI0.out) HB.out, by exact Ext.k0 HK.out⟩
  ·
   rw [if_neg c6] at H; have c6b0 := decide_eq_false c6; clear c6
   by_cases c10 : a1 > (wrap64 ((s0_0.length : Int) - t290))
   ·
    rw [if_pos c10] at H; have c10b0 := decide_eq_true c10; clear c10; simp only [Option.some.injEq, Prod.mk.injEq] at H; obtain ⟨rfl, rfl, rfl⟩ := H
    go_enter Try.func38, Try.ntmps38
    try go_wp2_with (first | ((with_reducible refine gate_callee (f := 48) rfl ?_); refine Ext.gs (some 6) rfl rfl Try.func48 #[.pointer (some ⟨g, 0, none⟩)] rfl ?_; (with_reducible refine (octets_Reader_over.calls g s0_0 s0_1 s0_2 false t290 t291 w0 _ ?side1 ?side2 A3.out).mono ?_); (case side1 => exact IsS89.go HI0.out); (case side2 => exact Ext.s1 (IsS89.ge HI0.out) HB.out); rintro e w11 ⟨rfl, hi, hb, hk⟩; refine ⟨_, rfl, ?_⟩; replace HK := Ext.a (KeepBut.trans (Ext.k0 HK.out) hk (.inl rfl)); replace HB := Ext.a (hb); replace HI0 := Ext.a (hi); (try clear hb hk hi)))
    obtain ⟨ASz12_0, cSz12_0, HGz12, hgz12, HSz12_0⟩ := HI0.out; have HX0 := Aside0.mk HGz12; have GE0 := Aside0.mk hgz12; clear HGz12 hgz12 HI0; replace HX0 := Ext.a (blk_drew HX0.out); replace HK := Ext.a (keep_drew HK.out); replace HB := Ext.a (below_drew1 HB.out); refine start_ (n := 16) (S := fun w' => w'.cell? ⟨g, 0, none⟩ = some (.slice ASz12_0 s0_0.length cSz12_0) ∧ w'.cell? ⟨g, 1, none⟩ = some (.int .i64 t290) ∧ w'.cell? ⟨g, 2, none⟩ = some (.int .i64 t291)) (ds := []) zb38_0 (by kernel_rfl) rfl rfl ⟨(blk_cell HX0.out 0).trans rfl, (blk_cell HX0.out 1).trans rfl, (blk_cell HX0.out 2).trans rfl⟩ (fun hHeld => ?_); refine with_tabW octets_Reader_Bytes.tab3 octets_Reader_Bytes.bits3 (fun HT_ HW_ => ?_); generalize w11.drew = w13 at HX0 HK HB hHeld ⊢; refine pure_ (i := 0) (N := some 7) (v := ?_) (a' := ?_) zb38_1 rfl rfl (any_of HT_.out (by kernel_rfl)) (fun _ _ _ h => h) (Or.inl ⟨by rfl, ?_⟩) ?_ ?_; rotate_left
    · intro w'; go_simp; with_reducible rfl
    rotate_left
    · simp only [Act.put, Ext.sb, Ext.sz, Ext.ss, i64_w, i32_w]; rfl
    refine pure_ (i := 1) (N := some 8) (v := ?_) (a' := ?_) zb38_2 rfl rfl (any_of HT_.out (by kernel_rfl)) (fun _ _ _ h => h) (Or.inl ⟨by rfl, ?_⟩) ?_ ?_; rotate_left
    · intro w'; go_simp; with_reducible rfl
    rotate_left
    · simp only [Act.put, Ext.sb, Ext.sz, Ext.ss, i64_w, i32_w]; rfl
    refine pure_ (i := 2) (N := some 9) (v := ?_) (a' := ?_) zb38_3 rfl rfl (any_of HT_.out (by kernel_rfl)) (fun _ _ _ h => h) (Or.inl ⟨by rfl, ?_⟩) ?_ ?_; rotate_left
    · intro w'; go_simp; with_reducible rfl
    rotate_left
    · simp only [Act.put, Ext.sb, Ext.sz, Ext.ss, i64_w, i32_w]; rfl
    refine pure_ (i := 3) (N := some 10) (v := ?_) (a' := ?_) zb38_4 rfl rfl (any_of HT_.out (by kernel_rfl)) (fun _ _ _ h => h) (Or.inl ⟨by rfl, ?_⟩) ?_ ?_; rotate_left
    · intro w'; go_simp; with_reducible rfl
    rotate_left
    · simp only [Act.put, Ext.sb, Ext.sz, Ext.ss, i64_w, i32_w]; rfl
    refine pure_ (i := 4) (N := some 11) (v := ?_) (a' := ?_) zb38_5 rfl rfl (any_of HT_.out (by kernel_rfl)) (fun _ _ _ h => h) (Or.inl ⟨by rfl, ?_⟩) ?_ ?_; rotate_left
    · intro w'; go_simp; with_reducible rfl
    rotate_left
    · simp only [Act.put, Ext.sb, Ext.sz, Ext.ss, i64_w, i32_w]; rfl
    refine pure_ (i := 5) (N := some 12) (v := ?_) (a' := ?_) zb38_6 rfl rfl (any_of HT_.out (by kernel_rfl)) (fun _ _ _ h => h) (Or.inl ⟨by rfl, ?_⟩) ?_ ?_; rotate_left
    · intro w'; go_simp; with_reducible rfl
    rotate_left
    · simp only [Act.put, Ext.sb, Ext.sz, Ext.ss, i64_w, i32_w]; rfl
    refine pure_ (i := 6) (N := some 13) (v := ?_) (a' := ?_) zb38_7 rfl rfl (any_of HT_.out (by kernel_rfl)) (fun _ _ _ h => h) (Or.inl ⟨by rfl, ?_⟩) ?_ ?_; rotate_left
    · intro w'; go_simp; with_reducible rfl
    rotate_left
    · simp only [Act.put, Ext.sb, Ext.sz, Ext.ss, i64_w, i32_w]; rfl
    refine pure_ (i := 9) (N := some 16) (v := ?_) (a' := ?_) zb38_13 rfl rfl (any_of HT_.out (by kernel_rfl)) (fun _ _ _ h => h) (Or.inl ⟨by rfl, ?_⟩) ?_ ?_; rotate_left
    · intro w'; go_simp; with_reducible rfl
    rotate_left
    · simp only [Act.put, Ext.sb, Ext.sz, Ext.ss, i64_w, i32_w]; rfl
    refine pure_ (i := 10) (N := some 17) (v := ?_) (a' := ?_) zb38_14 rfl rfl (any_of HT_.out (by kernel_rfl)) (fun _ _ _ h => h) (Or.inl ⟨by rfl, ?_⟩) ?_ ?_; rotate_left
    · intro w'; go_simp; with_reducible rfl
    rotate_left
    · simp only [Act.put, Ext.sb, Ext.sz, Ext.ss, i64_w, i32_w]; rfl
    refine pure_ (i := 11) (N := some 18) (v := ?_) (a' := ?_) zb38_15 rfl rfl (any_of HT_.out (by kernel_rfl)) (fun _ _ _ h => h) (Or.inl ⟨by rfl, ?_⟩) ?_ ?_; rotate_left
    · intro w'; go_simp; with_reducible rfl
    rotate_left
    · simp only [Act.put, Ext.sb, Ext.sz, Ext.ss, i64_w, i32_w]; rfl
    refine take_ (i := 7) (N := some 14) (v := ?_) (a' := ?_) zb38_16 rfl rfl (take_ofW HT_.out HW_.out (by kernel_rfl)) (fun _ _ _ h => h) (Or.inl ⟨by rfl, ?_⟩) hHeld ?_ ?_; rotate_left
    · rintro w' ⟨s0, s1, s2⟩; go_simp; with_reducible rfl
    rotate_left
    · simp only [Act.put, Ext.sb, Ext.sz, Ext.ss, i64_w, i32_w]; rfl
    refine pure_ (i := 8) (N := some 15) (v := ?_) (a' := ?_) zb38_8 rfl rfl (any_of HT_.out (by kernel_rfl)) (fun _ _ _ h => h) (Or.inl ⟨by rfl, ?_⟩) ?_ ?_; rotate_left
    · intro w'; go_simp; with_reducible rfl
    rotate_left
    · simp only [Act.put, Ext.sb, Ext.sz, Ext.ss, i64_w, i32_w]; rfl
    refine take_ (i := 12) (N := some 19) (v := ?_) (a' := ?_) zb38_9 rfl rfl (take_ofW HT_.out HW_.out (by kernel_rfl)) (fun _ _ _ h => h) (Or.inl ⟨by rfl, ?_⟩) hHeld ?_ ?_; rotate_left
    · rintro w' ⟨s0, s1, s2⟩; go_simp; with_reducible rfl
    rotate_left
    · simp only [Act.put, Ext.sb, Ext.sz, Ext.ss, i64_w, i32_w]; rfl
    refine pure_ (i := 13) (N := some 20) (v := ?_) (a' := ?_) zb38_10 rfl rfl (any_of HT_.out (by kernel_rfl)) (fun _ _ _ h => h) (Or.inl ⟨by rfl, ?_⟩) ?_ ?_; rotate_left
    · intro w'; go_simp; with_reducible rfl
    rotate_left
    · simp only [Act.put, Ext.sb, Ext.sz, Ext.ss, i64_w, i32_w]; rfl
    refine pure_ (i := 14) (N := some 21) (v := ?_) (a' := ?_) zb38_11 rfl rfl (any_of HT_.out (by kernel_rfl)) (fun _ _ _ h => h) (Or.inl ⟨by rfl, ?_⟩) ?_ ?_; rotate_left
    · intro w'; go_simp; with_reducible rfl
    rotate_left
    · simp only [Act.put, Ext.sb, Ext.sz, Ext.ss, i64_w, i32_w]; rfl
    refine pure_ (i := 15) (N := some 22) (v := ?_) (a' := ?_) zb38_12 rfl rfl (any_of HT_.out (by kernel_rfl)) (fun _ _ _ h => h) (Or.inl ⟨by rfl, ?_⟩) ?_ ?_; rotate_left
    · intro w'; go_simp; with_reducible rfl
    rotate_left
    · simp only [Act.put, Ext.sb, Ext.sz, Ext.ss, i64_w, i32_w]; rfl
    refine done_ (done_of HT_.out (by kernel_rfl)) ?_; have HI0 := Ext.a (show IsS89 w0 _ g s0_0 t290 t291 from ⟨_, _, HX0.out, GE0.out, HSz12_0⟩); clear HX0; obtain ⟨ASz14_0, cSz14_0, HGz14, hgz14, HSz14_0⟩ := HI0.out; have hcz14_0 := cellS89_0 HGz14; have hcz14_1 := cellS89_1 HGz14; have hcz14_2 := cellS89_2 HGz14; have hfz14_1 := blk_frozen HGz14 1; have hfz14_2 := blk_frozen HGz14 2; clear HGz14 hgz14
    try go_wp2
    go_ret
    exact ⟨_, by first | rfl | (simp [errW_none, errW_some] <;> rfl) | (simp [*, errW_none, errW_some] <;> rfl), by first | exact Ext.nl | exact Kd.R_nil _ _ _ _ _, by exact IsS89.go HI0.out, by exact Ext.s1 (IsS89.ge HI0.out) HB.out, by exact Ext.k0 HK.out⟩
   ·
    rw [if_neg c10] at H; have c10b0 := decide_eq_false c10; clear c10; obtain ⟨y292, hy292⟩ : ∃ y_ : List Int, y_ = (([] : List Int)) := ⟨_, rfl⟩
    replace H : (if 0 ≤ (wrap64 ((wrap64 (t290 + a1)) - a1)) then (if (wrap64 ((wrap64 (t290 + a1)) - a1)) ≤ (wrap64 (t290 + a1)) then (if (wrap64 (t290 + a1)) ≤ (s0_0.length : Int) then ((some ((s0_0.take ((wrap64 (t290 + a1)) : Int).toNat).drop ((wrap64 ((wrap64 (t290 + a1)) - a1)) : Int).toNat : List Int)).bind fun y295 => (if y292.length + y295.length < 140737488355328 then (some ((y292 ++ y295), wrap64 (t290 + a1), t291)) else (none))) else (none)) else (none)) else (none)) = some (r1, r2, r3) := by first | (rw [hy292]; with_reducible exact H) | (have H2_ := (Option.bind_some _ _).symm.trans H; rw [hy292]; with_reducible exact H2_) | (have H2_ := (Option.bind_some _ _).symm.trans H; with_reducible exact H2_) | with_reducible exact H | (rw [hy292]; exact H) | exact H
    have Ny292 := Aside0.mk hy292; clear hy292; obtain ⟨ji15, hji15⟩ : ∃ j_ : Int, (wrap64 ((wrap64 (t290 + a1)) - a1)) = j_ := ⟨_, rfl⟩
    replace H : (if 0 ≤ (ji15) then (if (ji15) ≤ (wrap64 (t290 + a1)) then (if (wrap64 (t290 + a1)) ≤ (s0_0.length : Int) then ((some ((s0_0.take ((wrap64 (t290 + a1)) : Int).toNat).drop ((ji15) : Int).toNat : List Int)).bind fun y295 => (if y292.length + y295.length < 140737488355328 then (some ((y292 ++ y295), wrap64 (t290 + a1), t291)) else (none))) else (none)) else (none)) else (none)) = some (r1, r2, r3) := by first | (rw [hji15] at H; exact H) | (simp only [hji15] at H ⊢; exact H)
    (try rw [hji15] at A3); have hji15w : (IntKind.i64.wrap ((wrap64 (t290 + a1)) - a1)) = ji15 := (i64_w _).trans hji15
    by_cases c16 : 0 ≤ (ji15)
    ·
     rw [if_pos c16] at H; have c16b0 := eq_true c16; have c16b1 := decide_eq_true c16; clear c16
     by_cases c17 : (ji15) ≤ (wrap64 (t290 + a1))
     ·
      rw [if_pos c17] at H; have c17b0 := eq_true c17; have c17b1 := decide_eq_true c17
      by_cases c18 : (wrap64 (t290 + a1)) ≤ (s0_0.length : Int)
      ·
       rw [if_pos c18] at H; have c18b0 := eq_true c18; have c18b1 := decide_eq_true c18; obtain ⟨y295, hy295⟩ : ∃ y_ : List Int, y_ = ((s0_0.take ((wrap64 (t290 + a1)) : Int).toNat).drop ((ji15) : Int).toNat) := ⟨_, rfl⟩
       replace H : (if y292.length + y295.length < 140737488355328 then (some ((y292 ++ y295), wrap64 (t290 + a1), t291)) else (none)) = some (r1, r2, r3) := by first | (rw [hy295]; with_reducible exact H) | (have H2_ := (Option.bind_some _ _).symm.trans H; rw [hy295]; with_reducible exact H2_) | (have H2_ := (Option.bind_some _ _).symm.trans H; with_reducible exact H2_) | with_reducible exact H | (rw [hy295]; exact H) | exact H
       have Ny295 := Aside0.mk hy295; clear hy295
       by_cases c19 : y292.length + y295.length < 140737488355328
       ·
        rw [if_pos c19] at H; have LMc19 := Aside0.mk c19; clear c19; obtain ⟨y299, hy299⟩ : ∃ y_ : List Int, y_ = (y292 ++ y295) := ⟨_, rfl⟩
        replace H : (some (y299, wrap64 (t290 + a1), t291)) = some (r1, r2, r3) := by first | (rw [hy299]; with_reducible exact H) | (have H2_ := (Option.bind_some _ _).symm.trans H; rw [hy299]; with_reducible exact H2_) | (have H2_ := (Option.bind_some _ _).symm.trans H; with_reducible exact H2_) | with_reducible exact H | (rw [hy299]; exact H) | exact H
        have Ny299 := Aside0.mk hy299; clear hy299; simp only [Option.some.injEq, Prod.mk.injEq] at H; obtain ⟨rfl, rfl, rfl⟩ := H
        go_enter Try.func38, Try.ntmps38
        try go_wp2_with (first | ((with_reducible refine gate_callee (f := 48) rfl ?_); refine Ext.gs (some 6) rfl rfl Try.func48 #[.pointer (some ⟨g, 0, none⟩)] rfl ?_; (with_reducible refine (octets_Reader_over.calls g s0_0 s0_1 s0_2 false t290 t291 w0 _ ?side1 ?side2 A3.out).mono ?_); (case side1 => exact IsS89.go HI0.out); (case side2 => exact Ext.s1 (IsS89.ge HI0.out) HB.out); rintro e w20 ⟨rfl, hi, hb, hk⟩; refine ⟨_, rfl, ?_⟩; replace HK := Ext.a (KeepBut.trans (Ext.k0 HK.out) hk (.inl rfl)); replace HB := Ext.a (hb); replace HI0 := Ext.a (hi); (try clear hb hk hi)))
        obtain ⟨ASz21_0, cSz21_0, HGz21, hgz21, HSz21_0⟩ := HI0.out; have HX0 := Aside0.mk HGz21; have GE0 := Aside0.mk hgz21; clear HGz21 hgz21 HI0; replace HX0 := Ext.a (blk_drew HX0.out); replace HK := Ext.a (keep_drew HK.out); replace HB := Ext.a (below_drew1 HB.out); refine start_ (n := 16) (S := fun w' => w'.cell? ⟨g, 0, none⟩ = some (.slice ASz21_0 s0_0.length cSz21_0) ∧ w'.cell? ⟨g, 1, none⟩ = some (.int .i64 t290) ∧ w'.cell? ⟨g, 2, none⟩ = some (.int .i64 t291)) (ds := []) zb38_0 (by kernel_rfl) rfl rfl ⟨(blk_cell HX0.out 0).trans rfl, (blk_cell HX0.out 1).trans rfl, (blk_cell HX0.out 2).trans rfl⟩ (fun hHeld => ?_); refine with_tabW octets_Reader_Bytes.tab3 octets_Reader_Bytes.bits3 (fun HT_ HW_ => ?_); generalize w20.drew = w22 at HX0 HK HB hHeld ⊢; refine pure_ (i := 0) (N := some 7) (v := ?_) (a' := ?_) zb38_1 rfl rfl (any_of HT_.out (by kernel_rfl)) (fun _ _ _ h => h) (Or.inl ⟨by rfl, ?_⟩) ?_ ?_; rotate_left
        · intro w'; go_simp; with_reducible rfl
        rotate_left
        · simp only [Act.put, Ext.sb, Ext.sz, Ext.ss, i64_w, i32_w]; rfl
        refine pure_ (i := 1) (N := some 8) (v := ?_) (a' := ?_) zb38_2 rfl rfl (any_of HT_.out (by kernel_rfl)) (fun _ _ _ h => h) (Or.inl ⟨by rfl, ?_⟩) ?_ ?_; rotate_left
        · intro w'; go_simp; with_reducible rfl
        rotate_left
        · simp only [Act.put, Ext.sb, Ext.sz, Ext.ss, i64_w, i32_w]; rfl
        refine pure_ (i := 2) (N := some 9) (v := ?_) (a' := ?_) zb38_3 rfl rfl (any_of HT_.out (by kernel_rfl)) (fun _ _ _ h => h) (Or.inl ⟨by rfl, ?_⟩) ?_ ?_; rotate_left
        · intro w'; go_simp; with_reducible rfl
        rotate_left
        · simp only [Act.put, Ext.sb, Ext.sz, Ext.ss, i64_w, i32_w]; rfl
        refine pure_ (i := 3) (N := some 10) (v := ?_) (a' := ?_) zb38_4 rfl rfl (any_of HT_.out (by kernel_rfl)) (fun _ _ _ h => h) (Or.inl ⟨by rfl, ?_⟩) ?_ ?_; rotate_left
        · intro w'; go_simp; with_reducible rfl
        rotate_left
        · simp only [Act.put, Ext.sb, Ext.sz, Ext.ss, i64_w, i32_w]; rfl
        refine pure_ (i := 4) (N := some 11) (v := ?_) (a' := ?_) zb38_5 rfl rfl (any_of HT_.out (by kernel_rfl)) (fun _ _ _ h => h) (Or.inl ⟨by rfl, ?_⟩) ?_ ?_; rotate_left
        · intro w'; go_simp; with_reducible rfl
        rotate_left
        · simp only [Act.put, Ext.sb, Ext.sz, Ext.ss, i64_w, i32_w]; rfl
        refine pure_ (i := 5) (N := some 12) (v := ?_) (a' := ?_) zb38_6 rfl rfl (any_of HT_.out (by kernel_rfl)) (fun _ _ _ h => h) (Or.inl ⟨by rfl, ?_⟩) ?_ ?_; rotate_left
        · intro w'; go_simp; with_reducible rfl
        rotate_left
        · simp only [Act.put, Ext.sb, Ext.sz, Ext.ss, i64_w, i32_w]; rfl
        refine pure_ (i := 6) (N := some 13) (v := ?_) (a' := ?_) zb38_7 rfl rfl (any_of HT_.out (by kernel_rfl)) (fun _ _ _ h => h) (Or.inl ⟨by rfl, ?_⟩) ?_ ?_; rotate_left
        · intro w'; go_simp; with_reducible rfl
        rotate_left
        · simp only [Act.put, Ext.sb, Ext.sz, Ext.ss, i64_w, i32_w]; rfl
        refine pure_ (i := 9) (N := some 16) (v := ?_) (a' := ?_) zb38_13 rfl rfl (any_of HT_.out (by kernel_rfl)) (fun _ _ _ h => h) (Or.inl ⟨by rfl, ?_⟩) ?_ ?_; rotate_left
        · intro w'; go_simp; with_reducible rfl
        rotate_left
        · simp only [Act.put, Ext.sb, Ext.sz, Ext.ss, i64_w, i32_w]; rfl
        refine pure_ (i := 10) (N := some 17) (v := ?_) (a' := ?_) zb38_14 rfl rfl (any_of HT_.out (by kernel_rfl)) (fun _ _ _ h => h) (Or.inl ⟨by rfl, ?_⟩) ?_ ?_; rotate_left
        · intro w'; go_simp; with_reducible rfl
        rotate_left
        · simp only [Act.put, Ext.sb, Ext.sz, Ext.ss, i64_w, i32_w]; rfl
        refine pure_ (i := 11) (N := some 18) (v := ?_) (a' := ?_) zb38_15 rfl rfl (any_of HT_.out (by kernel_rfl)) (fun _ _ _ h => h) (Or.inl ⟨by rfl, ?_⟩) ?_ ?_; rotate_left
        · intro w'; go_simp; with_reducible rfl
        rotate_left
        · simp only [Act.put, Ext.sb, Ext.sz, Ext.ss, i64_w, i32_w]; rfl
        refine take_ (i := 7) (N := some 14) (v := ?_) (a' := ?_) zb38_16 rfl rfl (take_ofW HT_.out HW_.out (by kernel_rfl)) (fun _ _ _ h => h) (Or.inl ⟨by rfl, ?_⟩) hHeld ?_ ?_; rotate_left
        · rintro w' ⟨s0, s1, s2⟩; go_simp; with_reducible rfl
        rotate_left
        · simp only [Act.put, Ext.sb, Ext.sz, Ext.ss, i64_w, i32_w]; rfl
        refine pure_ (i := 8) (N := some 15) (v := ?_) (a' := ?_) zb38_8 rfl rfl (any_of HT_.out (by kernel_rfl)) (fun _ _ _ h => h) (Or.inl ⟨by rfl, ?_⟩) ?_ ?_; rotate_left
        · intro w'; go_simp; with_reducible rfl
        rotate_left
        · simp only [Act.put, Ext.sb, Ext.sz, Ext.ss, i64_w, i32_w]; rfl
        refine take_ (i := 12) (N := some 19) (v := ?_) (a' := ?_) zb38_9 rfl rfl (take_ofW HT_.out HW_.out (by kernel_rfl)) (fun _ _ _ h => h) (Or.inl ⟨by rfl, ?_⟩) hHeld ?_ ?_; rotate_left
        · rintro w' ⟨s0, s1, s2⟩; go_simp; with_reducible rfl
        rotate_left
        · simp only [Act.put, Ext.sb, Ext.sz, Ext.ss, i64_w, i32_w]; rfl
        refine pure_ (i := 13) (N := some 20) (v := ?_) (a' := ?_) zb38_10 rfl rfl (any_of HT_.out (by kernel_rfl)) (fun _ _ _ h => h) (Or.inl ⟨by rfl, ?_⟩) ?_ ?_; rotate_left
        · intro w'; go_simp; with_reducible rfl
        rotate_left
        · simp only [Act.put, Ext.sb, Ext.sz, Ext.ss, i64_w, i32_w]; rfl
        refine pure_ (i := 14) (N := some 21) (v := ?_) (a' := ?_) zb38_11 rfl rfl (any_of HT_.out (by kernel_rfl)) (fun _ _ _ h => h) (Or.inl ⟨by rfl, ?_⟩) ?_ ?_; rotate_left
        · intro w'; go_simp; with_reducible rfl
        rotate_left
        · simp only [Act.put, Ext.sb, Ext.sz, Ext.ss, i64_w, i32_w]; rfl
        refine pure_ (i := 15) (N := some 22) (v := ?_) (a' := ?_) zb38_12 rfl rfl (any_of HT_.out (by kernel_rfl)) (fun _ _ _ h => h) (Or.inl ⟨by rfl, ?_⟩) ?_ ?_; rotate_left
        · intro w'; go_simp; with_reducible rfl
        rotate_left
        · simp only [Act.put, Ext.sb, Ext.sz, Ext.ss, i64_w, i32_w]; rfl
        refine done_ (done_of HT_.out (by kernel_rfl)) ?_; have HI0 := Ext.a (show IsS89 w0 _ g s0_0 t290 t291 from ⟨_, _, HX0.out, GE0.out, HSz21_0⟩); clear HX0; obtain ⟨ASz23_0, cSz23_0, HGz23, hgz23, HSz23_0⟩ := HI0.out; have hcz23_0 := cellS89_0 HGz23; have hcz23_1 := cellS89_1 HGz23; have hcz23_2 := cellS89_2 HGz23; have hfz23_1 := blk_frozen HGz23 1; have hfz23_2 := blk_frozen HGz23 2; clear HGz23 hgz23
        try go_wp2
        have n0_ : Aside0 (IsS89 w0 (w22.setCell ⟨g, 1, none⟩ (.int .i64 (wrap64 (t290 + a1)))) g s0_0 (wrap64 (t290 + a1)) t291) := ⟨by exact IsS89.go HI0.out⟩; have n1_ : Aside0 (KeepBut w (w22.setCell ⟨g, 1, none⟩ (.int .i64 (wrap64 (t290 + a1)))) g none) := ⟨by exact Ext.k0 HK.out⟩; have n2_ : Aside0 (Below w0.heap.size w0 (w22.setCell ⟨g, 1, none⟩ (.int .i64 (wrap64 (t290 + a1))))) := ⟨by exact Ext.s1 (IsS89.ge HI0.out) HB.out⟩; (try clear HI0); (try clear HK); (try clear HB); generalize (w22.setCell ⟨g, 1, none⟩ (.int .i64 (wrap64 (t290 + a1)))) = w24 at n0_ n1_ n2_ ⊢; have HI0 := n0_; have HK := n1_; have HB := n2_; clear n0_ n1_ n2_; obtain ⟨ASz25_0, cSz25_0, HGz25, hgz25, HSz25_0⟩ := HI0.out; have HX0 := Aside0.mk HGz25; have GE0 := Aside0.mk hgz25; clear HGz25 hgz25 HI0; replace HX0 := Ext.a (blk_drew HX0.out); replace HK := Ext.a (keep_drew HK.out); replace HB := Ext.a (below_drew1 HB.out); have q27 : ((wrap64 (t290 + a1)) : Int) ≤ ((s0_0.length : Int) : Int) := of_decide_eq_true (by first | (with_reducible assumption) | assumption); obtain ⟨i027, hi027, _, hsz27, _⟩ := info_parts info5; have hroom27 : s0_0.length ≤ cSz25_0 := HSz25_0.2; have hC27 : Kd.C (Kd.int .u8) _ ASz25_0 s0_0.length s0_0 := HSz25_0.1; have ql27 : ((ji15) : Int) ≤ ((wrap64 (t290 + a1)) : Int) := of_decide_eq_true (by first | (with_reducible assumption) | assumption); have q027 : (0 : Int) ≤ ((ji15) : Int) := of_decide_eq_true (by first | (with_reducible assumption) | assumption); have hcut27 := cut_mid (P := Try.prog) 25 5 .i64 .i64 Try.underlying25 hi027 1 hsz27 ASz25_0 s0_0.length cSz25_0 (ji15) (wrap64 (t290 + a1)) q027 ql27 q27 hroom27
        have hr27 := Kd.C_mid (lo := ((ji15) : Int).toNat) (hi := ((wrap64 (t290 + a1)) : Int).toNat) (c := cSz25_0) hC27 (by omega) (by omega) hroom27; obtain ⟨A27, hA27⟩ : ∃ A1, A1 = (if cSz25_0 = ((ji15) : Int).toNat then ASz25_0 else (ASz25_0 : Option Addr).map (·.add (((ji15) : Int).toNat * 1))) := ⟨_, rfl⟩; obtain ⟨c27, hc27⟩ : ∃ c1, c1 = cSz25_0 - ((ji15) : Int).toNat := ⟨_, rfl⟩; have hy27 : y295.length = ((wrap64 (t290 + a1)) : Int).toNat - ((ji15) : Int).toNat := (by rw [Ny295.out, List.length_drop, List.length_take] <;> omega); rw [show ((s0_0).take ((wrap64 (t290 + a1)) : Int).toNat).drop ((ji15) : Int).toNat = y295 from Ny295.out.symm] at hr27; replace hr27 : Kd.C (Kd.int .u8) _ A27 y295.length y295 := (by rw [hA27]; exact hr27); rw [← hy27, ← hA27, ← hc27] at hcut27; have HR298 := Aside0.mk hr27; have HC298 := Ext.a (show y295.length ≤ c27 from by rw [hy27, hc27]; exact Nat.sub_le_sub_right (Nat.le_trans (by omega) hroom27) _); clear hr27 hC27 hroom27 hi027 hsz27 hc27; have KY27 := Aside0.mk hy27; have KA27 := Aside0.mk hA27; clear hy27 hA27; replace q27 := eq_true q27; refine start_ (n := 18) (S := fun w' => w'.cell? ⟨g, 0, none⟩ = some (.slice ASz25_0 s0_0.length cSz25_0) ∧ w'.cell? ⟨g, 1, none⟩ = some (.int .i64 (wrap64 (t290 + a1))) ∧ w'.cell? ⟨g, 2, none⟩ = some (.int .i64 t291)) (ds := []) #[false, false, false, false, false, false, false, false, false, false, false, false, false, false, false, false, false, false] (by kernel_rfl) rfl rfl ⟨(blk_cell HX0.out 0).trans rfl, (blk_cell HX0.out 1).trans rfl, (blk_cell HX0.out 2).trans rfl⟩ (fun hHeld => ?_); refine with_tabW octets_Reader_Bytes.tab7 octets_Reader_Bytes.bits7 (fun HT_ HW_ => ?_)
        generalize w24.drew = w26 at HX0 HK HB HR298 hHeld ⊢; refine pure_ (i := 1) (N := some 35) (v := ?_) (a' := ?_) #[false, true, false, false, false, false, false, false, false, false, false, false, false, false, false, false, false, false] rfl rfl (any_of HT_.out (by kernel_rfl)) (fun _ _ _ h => h) (Or.inl ⟨by rfl, ?_⟩) ?_ ?_; rotate_left
        · intro w'; go_simp; with_reducible rfl
        rotate_left
        · simp only [Act.put, Ext.sb, Ext.sz, Ext.ss, i64_w, i32_w]; rfl
        refine pure_ (i := 2) (N := some 36) (v := ?_) (a' := ?_) #[false, true, true, false, false, false, false, false, false, false, false, false, false, false, false, false, false, false] rfl rfl (any_of HT_.out (by kernel_rfl)) (fun _ _ _ h => h) (Or.inl ⟨by rfl, ?_⟩) ?_ ?_; rotate_left
        · intro w'; go_simp; with_reducible rfl
        rotate_left
        · simp only [Act.put, Ext.sb, Ext.sz, Ext.ss, i64_w, i32_w]; rfl
        refine pure_ (i := 3) (N := some 37) (v := ?_) (a' := ?_) #[false, true, true, true, false, false, false, false, false, false, false, false, false, false, false, false, false, false] rfl rfl (any_of HT_.out (by kernel_rfl)) (fun _ _ _ h => h) (Or.inl ⟨by rfl, ?_⟩) ?_ ?_; rotate_left
        · intro w'; go_simp; with_reducible rfl
        rotate_left
        · simp only [Act.put, Ext.sb, Ext.sz, Ext.ss, i64_w, i32_w]; rfl
        refine pure_ (i := 5) (N := some 39) (v := ?_) (a' := ?_) #[false, true, true, true, false, true, false, false, false, false, false, false, false, false, false, false, false, false] rfl rfl (any_of HT_.out (by kernel_rfl)) (fun _ _ _ h => h) (Or.inl ⟨by rfl, ?_⟩) ?_ ?_; rotate_left
        · intro w'; go_simp; with_reducible rfl
        rotate_left
        · simp only [Act.put, Ext.sb, Ext.sz, Ext.ss, i64_w, i32_w]; rfl
        refine pure_ (i := 6) (N := some 40) (v := ?_) (a' := ?_) #[false, true, true, true, false, true, true, false, false, false, false, false, false, false, false, false, false, false] rfl rfl (any_of HT_.out (by kernel_rfl)) (fun _ _ _ h => h) (Or.inl ⟨by rfl, ?_⟩) ?_ ?_; rotate_left
        · intro w'; go_simp; with_reducible rfl
        rotate_left
        · simp only [Act.put, Ext.sb, Ext.sz, Ext.ss, i64_w, i32_w]; rfl
        refine pure_ (i := 7) (N := some 41) (v := ?_) (a' := ?_) #[false, true, true, true, false, true, true, true, false, false, false, false, false, false, false, false, false, false] rfl rfl (any_of HT_.out (by kernel_rfl)) (fun _ _ _ h => h) (Or.inl ⟨by rfl, ?_⟩) ?_ ?_; rotate_left
        · intro w'; go_simp; with_reducible rfl
        rotate_left
        · simp only [Act.put, Ext.sb, Ext.sz, Ext.ss, i64_w, i32_w]; rfl
        refine pure_ (i := 9) (N := some 43) (v := ?_) (a' := ?_) #[false, true, true, true, false, true, true, true, false, true, false, false, false, false, false, false, false, false] rfl rfl (any_of HT_.out (by kernel_rfl)) (fun _ _ _ h => h) (Or.inl ⟨by rfl, ?_⟩) ?_ ?_; rotate_left
        · intro w'; go_simp; with_reducible rfl
        rotate_left
        · simp only [Act.put, Ext.sb, Ext.sz, Ext.ss, i64_w, i32_w]; rfl
        refine pure_ (i := 11) (N := some 45) (v := ?_) (a' := ?_) #[false, true, true, true, false, true, true, true, false, true, false, true, false, false, false, false, false, false] rfl rfl (any_of HT_.out (by kernel_rfl)) (fun _ _ _ h => h) (Or.inl ⟨by rfl, ?_⟩) ?_ ?_; rotate_left
        · intro w'; go_simp; with_reducible rfl
        rotate_left
        · simp only [Act.put, Ext.sb, Ext.sz, Ext.ss, i64_w, i32_w]; rfl
        refine pure_ (i := 12) (N := some 46) (v := ?_) (a' := ?_) #[false, true, true, true, false, true, true, true, false, true, false, true, true, false, false, false, false, false] rfl rfl (any_of HT_.out (by kernel_rfl)) (fun _ _ _ h => h) (Or.inl ⟨by rfl, ?_⟩) ?_ ?_; rotate_left
        · intro w'; go_simp; with_reducible rfl
        rotate_left
        · simp only [Act.put, Ext.sb, Ext.sz, Ext.ss, i64_w, i32_w]; rfl
        refine pure_ (i := 13) (N := some 47) (v := ?_) (a' := ?_) #[false, true, true, true, false, true, true, true, false, true, false, true, true, true, false, false, false, false] rfl rfl (any_of HT_.out (by kernel_rfl)) (fun _ _ _ h => h) (Or.inl ⟨by rfl, ?_⟩) ?_ ?_; rotate_left
        · intro w'; go_simp; with_reducible rfl
        rotate_left
        · simp only [Act.put, Ext.sb, Ext.sz, Ext.ss, i64_w, i32_w]; rfl
        refine take_ (i := 4) (N := some 38) (v := ?_) (a' := ?_) #[false, true, true, true, true, true, true, true, false, true, false, true, true, true, false, false, false, false] rfl rfl (take_ofW HT_.out HW_.out (by kernel_rfl)) (fun _ _ _ h => h) (Or.inl ⟨by rfl, ?_⟩) hHeld ?_ ?_; rotate_left
        · rintro w' ⟨s0, s1, s2⟩; go_simp; with_reducible rfl
        rotate_left
        · simp only [Act.put, Ext.sb, Ext.sz, Ext.ss, i64_w, i32_w]; rfl
        refine take_ (i := 8) (N := some 42) (v := ?_) (a' := ?_) #[false, true, true, true, true, true, true, true, true, true, false, true, true, true, false, false, false, false] rfl rfl (take_ofW HT_.out HW_.out (by kernel_rfl)) (fun _ _ _ h => h) (Or.inl ⟨by rfl, ?_⟩) hHeld ?_ ?_; rotate_left
        · rintro w' ⟨s0, s1, s2⟩; go_simp; with_reducible rfl
        rotate_left
        · simp only [Act.put, Ext.sb, Ext.sz, Ext.ss, i64_w, i32_w]; rfl
        refine pure_ (i := 10) (N := some 44) (v := ?_) (a' := ?_) #[false, true, true, true, true, true, true, true, true, true, true, true, true, true, false, false, false, false] rfl rfl (any_of HT_.out (by kernel_rfl)) (fun _ _ _ h => h) (Or.inl ⟨by rfl, ?_⟩) ?_ ?_; rotate_left
        · intro w'; go_simp; with_reducible rfl
        rotate_left
        · simp only [Act.put, Ext.sb, Ext.sz, Ext.ss, i64_w, i32_w]; rfl
        refine take_ (i := 14) (N := some 48) (v := ?_) (a' := ?_) #[false, true, true, true, true, true, true, true, true, true, true, true, true, true, true, false, false, false] rfl rfl (take_ofW HT_.out HW_.out (by kernel_rfl)) (fun _ _ _ h => h) (Or.inl ⟨by rfl, ?_⟩) hHeld ?_ ?_; rotate_left
        · rintro w' ⟨s0, s1, s2⟩; go_simp; with_reducible rfl
        rotate_left
        · simp only [Act.put, Ext.sb, Ext.sz, Ext.ss, i64_w, i32_w]; rfl
        refine pure_ (i := 15) (N := some 49) (v := ?_) (a' := ?_) #[false, true, true, true, true, true, true, true, true, true, true, true, true, true, true, true, false, false] rfl rfl (any_of HT_.out (by kernel_rfl)) (fun _ _ _ h => h) (Or.inl ⟨by rfl, ?_⟩) ?_ ?_; rotate_left
        · intro w'; go_simp; with_reducible rfl
        rotate_left
        · simp only [Act.put, Ext.sb, Ext.sz, Ext.ss, i64_w, i32_w]; rfl
        refine one_ (i := 0) (N := some 34) #[true, true, true, true, true, true, true, true, true, true, true, true, true, true, true, true, false, false] rfl rfl (one_of HT_.out (by kernel_rfl)) (by decide) (fun K hK => ?_); refine Kd.R_lit_step (Kd.int .u8) _ 5 ?hg (N := 34) ?hd (xs := ([] : List Int)) (inner := []) (ok := fun _ => True) (okp := fun _ => True) ?hr ?hp (fun _ hk => hk) trivial (Below.refl _ _) (Nat.le_refl _) (by simp) ?_; (case hd => rfl); (case hg => rfl); (case hr => first | (go_simp; done) | (go_simp; rfl)); (case hp => exact (Reps.none _ _))
        intro v293 w28 ho29 hb hg_ hnew_
        clear hg_ hnew_
        (first | rw [← Ny292.out] at ho29 | (simp only [Int.reduceToNat] at ho29; rw [← Ny292.out] at ho29))
        have HO294 := Ext.a (Kd.R_lower ho29 (keep_size (w := w) (g := g) (row := none) (by first | exact Ext.kf1 GW0.out HK.out | exact Ext.k0 HK.out))); replace HX0 := Ext.a (blk_below HX0.out hb); replace HK := Ext.a (KeepBut.trans (by first | exact Ext.kf1 GW0.out HK.out | exact Ext.k0 HK.out) (KeepBut.of_below hb g none) (.inl rfl)); replace HB := Ext.a (below_step (Ext.s1 GE0.out HB.out) hb); clear hb ho29; refine hK.out _ _ ⟨(blk_cell HX0.out 0).trans rfl, (blk_cell HX0.out 1).trans rfl, (blk_cell HX0.out 2).trans rfl⟩ (fun hHeld => ?_); clear hK K; refine norm_ (a' := ?_) ?_ ?_; rotate_left
        · show Act.put _ (some 34) _ = _; simp only [Act.put, Ext.sb, Ext.sz, Ext.ss, i64_w, i32_w]; rfl
        refine one_ (i := 16) (N := some 50) #[true, true, true, true, true, true, true, true, true, true, true, true, true, true, true, true, true, false] rfl rfl (one_of HT_.out (by kernel_rfl)) (by decide) (fun K hK => ?_); refine Kd.R_append_rows_step (Kd.int .u8) w.heap.size (by rfl) (.tmp 34) (.tmp 49) 25 5 (.int .u8 0) 1 rfl Try.underlying25 info5 rfl (by decide) (by omega) v293 y292 y295 _ _ _ (fun _ => True) (fun _ => False) rfl rfl ?aO ?aR (fun _ _ h => h) (fun _ h => h.elim) ?aF (Below.refl _ _) ?aS ?aL ?_
        (case aR => exact Kd.C_below HR298.out (Ext.s1 GE0.out HB.out))
        (case aF => exact (fun _ _ => trivial))
        (case aO => exact (Ext.nR HO294.out))
        (case aS => exact (keep_size (w := w) (g := g) (row := none) (by first | exact Ext.kf1 GW0.out HK.out | exact Ext.k0 HK.out)))
        (case aL => have := LMc19.out; omega)
        intro v300 w30 ho hb hg hat
        rw [← Ny299.out] at ho; replace HX0 := Ext.a (blk_grown HX0.out hg (Kd.R_ne HO294.out HX0.out (by decide))); replace HB := Ext.a (below_weaken (Ext.s1 GE0.out HB.out) HL.out hb); replace HK := Ext.a (KeepBut.trans (by first | exact Ext.kf1 GW0.out HK.out | exact Ext.k0 HK.out) (KeepBut.of_grown hg g) (Kd.R_base2 HO294.out)); have HO301 := Ext.a (ho); clear HO294; clear ho hb hg hat; refine hK.out _ _ ⟨(blk_cell HX0.out 0).trans rfl, (blk_cell HX0.out 1).trans rfl, (blk_cell HX0.out 2).trans rfl⟩ (fun hHeld => ?_); clear hK K; refine norm_ (a' := ?_) ?_ ?_; rotate_left
        · show Act.put _ (some 50) _ = _; simp only [Act.put, Ext.sb, Ext.sz, Ext.ss, i64_w, i32_w]; rfl
        refine pure_ (i := 17) (N := some 4) (v := ?_) (a' := ?_) #[true, true, true, true, true, true, true, true, true, true, true, true, true, true, true, true, true, true] rfl rfl (any_of HT_.out (by kernel_rfl)) (fun _ _ _ h => h) (Or.inl ⟨by rfl, ?_⟩) ?_ ?_; rotate_left
        · intro w'; go_simp; with_reducible rfl
        rotate_left
        · simp only [Act.put, Ext.sb, Ext.sz, Ext.ss, i64_w, i32_w]; rfl
        refine done_ (done_of HT_.out (by kernel_rfl)) ?_; have HI0 := Ext.a (show IsS89 w0 _ g s0_0 (wrap64 (t290 + a1)) t291 from ⟨_, _, HX0.out, GE0.out, HSz25_0⟩); clear HX0
        try go_wp2
        go_ret
        exact ⟨_, by first | rfl | (simp [errW_none, errW_some] <;> rfl) | (simp only [← hji15]; first | rfl | (simp [errW_none, errW_some] <;> rfl)) | (simp [*, errW_none, errW_some] <;> rfl), by exact Ext.nR HO301.out, by exact IsS89.go HI0.out, by exact Ext.s1 (IsS89.ge HI0.out) HB.out, by exact Ext.k0 HK.out⟩
       · rw [if_neg c19] at H; exact absurd H (by simp)
      · rw [if_neg c18] at H; exact absurd H (by simp)
     · rw [if_neg c17] at H; exact absurd H (by simp)
    · rw [if_neg c16] at H; exact absurd H (by simp)

end Go.Proofs.Ytandeendeoempaa.PM
