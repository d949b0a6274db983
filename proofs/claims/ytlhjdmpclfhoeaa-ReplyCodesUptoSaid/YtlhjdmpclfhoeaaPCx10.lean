-- Written by wip/printx.py, a program of this work over the kit's print, for this claim.
import Derived.Test.YtlhjdmpclfhoeaaPCx0
namespace Go.Proofs.Ytlhjdmpclfhoeaa.PC
open Go.RowKit Go.Proofs.YtlhjdmpclfhoeaaW.PrintWords Go.Proofs.YtlhjdmpclfhoeaaW.PrintLast Go.Proofs.YtlhjdmpclfhoeaaW.PrintMore
attribute [local go_sem] max2_int min2_int max_two min_two max_three min_three max_four min_four   -- for this text's walks alone
attribute [local go_sem] Ext.pick_u8 Ext.pick_u32 Ext.pick_u64
set_option linter.unusedVariables false
set_option linter.unusedSimpArgs false



/-- A writer of type 66 at block g of W: its row is its own; since wF nothing of another type has changed. -/
def IsS66 (w0 wF W : World) (g : Nat) (f0 : List Int) (f1 : Bool) : Prop := (∃ v : Value, W.heap[g]? = some (.cells #[v, .bool f1] 66 (0, 0)) ∧ w0.heap.size ≤ g ∧ Kd.R (Kd.int .u8) 5 W w0.heap.size (fun _ => True) v f0) ∧ Ext.Fr wF W g 5
theorem IsS66.below {w0 wF W : World} {g : Nat} {f0 : List Int} {f1 : Bool} {W1 : World} (h : IsS66 w0 wF W g f0 f1) (hw : Below W.heap.size W W1) : IsS66 w0 wF W1 g f0 f1 := by
 obtain ⟨⟨v, hb, hg, ho⟩, hf⟩ := h
 exact ⟨⟨v, blk_below hb hw, hg, Kd.R_below ho hw⟩, hf.below hw⟩
theorem IsS66.alloc {w0 wF W : World} {g : Nat} {f0 : List Int} {f1 : Bool} (h : IsS66 w0 wF W g f0 f1) (o : Obj) : IsS66 w0 wF (W.alloc o) g f0 f1 := h.below (below_alloc (Below.refl _ _) o)
theorem IsS66.drewN {w0 wF W : World} {g : Nat} {f0 : List Int} {f1 : Bool} (h : IsS66 w0 wF W g f0 f1) (m : Nat) : IsS66 w0 wF (W.drewN m) g f0 f1 := h.below (pw_below_drewN (Below.refl _ _) m)
theorem IsS66.drew {w0 wF W : World} {g : Nat} {f0 : List Int} {f1 : Bool} (h : IsS66 w0 wF W g f0 f1) : IsS66 w0 wF W.drew g f0 f1 := h.below (below_drew (Below.refl _ _))
theorem IsS66.at_ {w0 wF W : World} {g : Nat} {f0 : List Int} {f1 : Bool} {w' : World} {m : Nat} (hq : W.drewN m = w') (h : IsS66 w0 wF W g f0 f1) : IsS66 w0 wF w' g f0 f1 := by subst hq; exact IsS66.drewN h m
theorem IsS66.lt {w0 wF W : World} {g : Nat} {f0 : List Int} {f1 : Bool} (h : IsS66 w0 wF W g f0 f1) : g < W.heap.size := by
 obtain ⟨⟨v, hb, hg, ho⟩, hf⟩ := h
 exact blk_lt hb
theorem IsS66.ge {w0 wF W : World} {g : Nat} {f0 : List Int} {f1 : Bool} (h : IsS66 w0 wF W g f0 f1) : w0.heap.size ≤ g := by
 obtain ⟨⟨v, hb, hg, ho⟩, hf⟩ := h
 exact hg
theorem IsS66.now {w0 wF W : World} {g : Nat} {f0 : List Int} {f1 : Bool} (h : IsS66 w0 wF W g f0 f1) : IsS66 w0 W W g f0 f1 := ⟨h.1, Ext.Fr.refl _ _ _⟩
theorem IsS66.then {w0 wF W : World} {g : Nat} {f0 : List Int} {f1 : Bool} {W1 : World} {f0' : List Int} {f1' : Bool} (h : IsS66 w0 wF W g f0 f1) (h' : IsS66 w0 W W1 g f0' f1') : IsS66 w0 wF W1 g f0' f1' := ⟨h'.1, h.2.trans h'.2⟩
theorem IsS66.blk {w0 wF W : World} {g : Nat} {f0 : List Int} {f1 : Bool} (h : IsS66 w0 wF W g f0 f1) {a : Nat} {cs : Array Value} {t : TypeId} {fr : Nat × Nat} (hb : wF.heap[a]? = some (.cells cs t fr)) (hne : a ≠ g) (ht : t ≠ 5) : W.heap[a]? = some (.cells cs t fr) := h.2.blk hb hne ht
theorem IsS66.far {w0 wF W : World} {g : Nat} {f0 : List Int} {f1 : Bool} (h : IsS66 w0 wF W g f0 f1) {gb t : Nat} (hb : Ext.Typ W gb t) (hne : g ≠ gb) (hge : wF.heap.size ≤ gb) (ht : ∀ q, q ∈ 5 :: (Kd.int .u8).E → q ≠ t) (i : Nat) (u : Value) : IsS66 w0 wF (W.setCell ⟨gb, i, none⟩ u) g f0 f1 := by
 obtain ⟨⟨v, hx, hg, ho⟩, hf⟩ := h; obtain ⟨cs, hc⟩ := hb
 exact ⟨⟨v, blk_far hx hne u, hg, Kd.R_mono (Kd.R_far (p := ⟨gb, i, none⟩) (Kd.R_types ho hc ht) (fun _ hk => hk.2) u) (fun _ _ => trivial : ∀ _, _ → True)⟩, hf.far hge i u⟩
theorem IsS66.keepb {w0 wF W : World} {g : Nat} {f0 : List Int} {f1 : Bool} {W1 : World} {gb t : Nat} (h : IsS66 w0 wF W g f0 f1) (hk : KeepBut W W1 gb none) (hb : Ext.Typ W gb t) (hne : g ≠ gb) (hge : wF.heap.size ≤ gb) (ht : ∀ q, q ∈ 5 :: (Kd.int .u8).E → q ≠ t) : IsS66 w0 wF W1 g f0 f1 := by
 obtain ⟨⟨v, hx, hg, ho⟩, hf⟩ := h; obtain ⟨cs, hc⟩ := hb
 exact ⟨⟨v, KeepBut.blk hk hx hne (by simp), hg, Kd.R_mono (Kd.R_keep (Kd.R_types ho hc ht) hk (fun _ h => h.2)) (fun _ _ => trivial : ∀ _, _ → True)⟩, hf.keep hk hge⟩
theorem cellS66_1 {W : World} {g : Nat} {v : Value} {f1 : Bool} (h : W.heap[g]? = some (.cells #[v, .bool f1] 66 (0, 0))) : W.cell? ⟨g, 1, none⟩ = some (.bool f1) := (blk_cell h 1).trans rfl
theorem IsS66.set_1 {w0 wF W : World} {g : Nat} {f0 : List Int} {f1 : Bool} (h : IsS66 w0 wF W g f0 f1) (x : Bool) : IsS66 w0 wF (W.setCell ⟨g, 1, none⟩ (.bool x)) g f0 x := by
 obtain ⟨⟨v, hb, hg, ho⟩, hf⟩ := h
 exact ⟨⟨v, blk_put (cs' := #[v, .bool x]) hb 1 (.bool x) rfl, hg, Kd.R_mono (Kd.R_far (p := ⟨g, 1, none⟩) (Kd.R_types ho hb (by decide)) (fun _ hk => hk.2) (.bool x)) (fun _ _ => trivial : ∀ _, _ → True)⟩, hf.setg 1 _⟩

class IsS66.L (g : Nat) (f0 : List Int) (f1 : Bool) (W W' : World) (f0' : outParam (List Int)) (f1' : outParam (Bool)) : Prop where
  out : ∀ w0 wF : World, IsS66 w0 wF W g f0 f1 → IsS66 w0 wF W' g f0' f1'
instance IsS66.L.refl (g : Nat) (f0 : List Int) (f1 : Bool) (W : World) : IsS66.L g f0 f1 W W f0 f1 := ⟨fun _ _ h => h⟩
instance IsS66.L.alloc (g : Nat) (f0 : List Int) (f1 : Bool) (W W' : World) (f0' : (List Int)) (f1' : (Bool)) (o : Obj) [k : IsS66.L g f0 f1 W W' f0' f1'] : IsS66.L g f0 f1 W (W'.alloc o) f0' f1' := ⟨fun _ _ h => IsS66.alloc (k.out _ _ h) o⟩
instance IsS66.L.drewN (g : Nat) (f0 : List Int) (f1 : Bool) (W W' : World) (f0' : (List Int)) (f1' : (Bool)) (n : Nat) [k : IsS66.L g f0 f1 W W' f0' f1'] : IsS66.L g f0 f1 W (W'.drewN n) f0' f1' := ⟨fun _ _ h => IsS66.drewN (k.out _ _ h) n⟩
instance IsS66.L.drew (g : Nat) (f0 : List Int) (f1 : Bool) (W W' : World) (f0' : (List Int)) (f1' : (Bool)) [k : IsS66.L g f0 f1 W W' f0' f1'] : IsS66.L g f0 f1 W W'.drew f0' f1' := ⟨fun _ _ h => IsS66.drew (k.out _ _ h)⟩
instance IsS66.L.set_1 (g : Nat) (f0 : List Int) (f1 : Bool) (W W' : World) (f0' : (List Int)) (f1' : (Bool)) (x : Bool) [k : IsS66.L g f0 f1 W W' f0' f1'] : IsS66.L g f0 f1 W (W'.setCell ⟨g, 1, none⟩ (.bool x)) f0' x := ⟨fun _ _ h => IsS66.set_1 (k.out _ _ h) x⟩
theorem IsS66.go {g : Nat} {f0 : List Int} {f1 : Bool} {W W' : World} {f0' : List Int} {f1' : Bool} {w0 wF : World} (h : IsS66 w0 wF W g f0 f1) [k : IsS66.L g f0 f1 W W' f0' f1'] : IsS66 w0 wF W' g f0' f1' := k.out w0 wF h

/-! ### terrierref20_out_add: function 32 -/
def terrierref20_out_add.f (s0_0 : List Int) (s0_1 : Bool) (l1 : List Int) : Option (List Int × Bool) := if s0_0.length + l1.length < 140737488355328 then (some ((s0_0 ++ l1), s0_1)) else (none)
set_option maxHeartbeats 8000000 in
set_option maxRecDepth 100000 in
theorem terrierref20_out_add.calls (g : Nat) (s0_0 : List Int) (s0_1 : Bool) (A1 : Option Addr) (c1 : Nat) (l1 : List Int) (r1 : List Int) (r2 : Bool) (w wS : World) (hI : IsS66 w wS wS g s0_0 s0_1) (hB : Below w.heap.size w wS) (hr1 : Kd.C (Kd.int .u8) wS A1 l1.length l1) (hc1 : l1.length ≤ c1) (h : terrierref20_out_add.f s0_0 s0_1 l1 = some (r1, r2)) :
  Calls Try.prog 32 #[.pointer (some ⟨g, 0, none⟩), .slice A1 l1.length c1] wS fun e w' => e = .returned (.tuple #[]) ∧ IsS66 w wS w' g r1 r2 ∧ Below w.heap.size w w' := by
 have HR1 := Aside0.mk hr1; have HC1 := Aside0.mk hc1; clear hr1 hc1; have HI0 := Aside0.mk hI; have HB := Aside0.mk hB; clear hI hB; have H := h; unfold terrierref20_out_add.f at H; clear h
 by_cases c3 : s0_0.length + l1.length < 140737488355328
 ·
  rw [if_pos c3] at H; have LMc3 := Aside0.mk c3; clear c3; obtain ⟨y281, hy281⟩ : ∃ y_ : List Int, y_ = (s0_0 ++ l1) := ⟨_, rfl⟩
  replace H : (some (y281, s0_1)) = some (r1, r2) := by first | (rw [hy281]; with_reducible exact H) | (have H2_ := (Option.bind_some _ _).symm.trans H; rw [hy281]; with_reducible exact H2_) | (have H2_ := (Option.bind_some _ _).symm.trans H; with_reducible exact H2_) | with_reducible exact H | (rw [hy281]; exact H) | exact H
  have Ny281 := Aside0.mk hy281; clear hy281; simp only [Option.some.injEq, Prod.mk.injEq] at H; obtain ⟨rfl, rfl⟩ := H; obtain ⟨⟨v279, HGz4, hgz4, hoz4⟩, hfz4⟩ := HI0.out; have hcz4_0 := (blk_cell HGz4 0).trans rfl; have hcz4_1 := cellS66_1 HGz4; have hfz4_0 := blk_frozen HGz4 0; have hfz4_1 := blk_frozen HGz4 1; have HO280 := Aside0.mk hoz4; have HX0 := Aside0.mk HGz4; have GE0 := Aside0.mk hgz4; have GW0 := GE0; have HF0 := Aside0.mk hfz4; clear HGz4 hgz4 hoz4 hfz4 HI0
  go_enter Try.func32, Try.ntmps32
  go_wp2_with (first | ((with_reducible refine gate_builtin (b := .append) (xs := #[.tmp 8, .tmp 9]) rfl ?_); at_builtin; refine Kd.R_append_rows (Kd.int .u8) (w0 := w) w.heap.size rfl (.tmp 8) (.tmp 9) 36 5 (.int .u8 0) 1 rfl Try.underlying36 info5 rfl (by decide) (by omega) v279 s0_0 l1 _ _ _ (fun _ => True) (fun _ => False) rfl rfl ?aO ?aR (fun _ _ h => h) (fun _ h => h.elim) ?aF ?aB ?aS ?aL ?_; (case aR => first | exact Ext.kC HR1.out HB.out | exact Ext.nC HR1.out); (case aB => exact (Ext.s1 GE0.out HB.out)); (case aF => exact (fun _ _ => trivial)); (case aO => exact (Ext.nR HO280.out)); (case aS => exact (below_size (Ext.s1 GE0.out HB.out))); (case aL => have := LMc3.out; omega); intro v282 w5 ho hb hg hat; rw [← Ny281.out] at ho; replace HF0 := Ext.a (Ext.Fr.grown (Ext.fr HF0.out) (Ext.nR HO280.out) hg); replace HX0 := Ext.a (blk_grown HX0.out hg (Kd.R_ne HO280.out HX0.out (by decide))); replace HB := Ext.a (hb); have HO283 := Ext.a (ho); clear HO280; clear ho hb hg hat; obtain ⟨Ao6, co6, eo6⟩ := Kd.R_slice HO283.out; subst eo6; have hcz7_0 : w5.cell? ⟨g, 0, none⟩ = some (v279) := (blk_cell HX0.out 0).trans rfl; have hcz7_1 : w5.cell? ⟨g, 1, none⟩ = some (.bool s0_1) := (blk_cell HX0.out 1).trans rfl; have hfz7_0 := blk_frozen HX0.out 0; have hfz7_1 := blk_frozen HX0.out 1))
  first | go_end0 | ((try simp only [Exit.inBlock, Exit.then]); refine bodyPost_ret (results_none rfl _ _ _) rfl ?_)
  exact ⟨by first | rfl | (simp [errW_none, errW_some] <;> rfl) | (simp [*, errW_none, errW_some] <;> rfl), ⟨⟨_, (by refine blk_put (cs := #[v279, .bool s0_1]) ?_ 0 _ rfl; exact HX0.out), GE0.out, (Ext.nR (Kd.R_mono (Kd.R_far (p := ⟨g, 0, none⟩) (Kd.R_types HO283.out HX0.out (by decide)) (fun _ hk => hk.2) (.slice Ao6 y281.length co6)) (fun _ hk => trivial)))⟩, Ext.fr HF0.out⟩, by exact Ext.s1 GE0.out HB.out⟩
 · rw [if_neg c3] at H; exact absurd H (by simp)



/-! ### terrierref20_out_small: function 24 -/
def terrierref20_out_small.f (s0_0 : List Int) (s0_1 : Bool) (a1 : Int) : Option (List Int × Bool) := if a1 < 0 then ((terrierref20_out_add.f s0_0 true (([(a1) % 256] : List Int))).bind fun bt287 => (some (bt287.1, bt287.2))) else (if a1 > 255 then ((terrierref20_out_add.f s0_0 true (([(a1) % 256] : List Int))).bind fun bt292 => (some (bt292.1, bt292.2))) else ((terrierref20_out_add.f s0_0 s0_1 (([(a1) % 256] : List Int))).bind fun bt297 => (some (bt297.1, bt297.2))))
set_option maxHeartbeats 8000000 in
set_option maxRecDepth 100000 in
theorem terrierref20_out_small.calls (g : Nat) (s0_0 : List Int) (s0_1 : Bool) (a1 : Int) (r1 : List Int) (r2 : Bool) (w wS : World) (hI : IsS66 w wS wS g s0_0 s0_1) (hB : Below w.heap.size w wS) (h : terrierref20_out_small.f s0_0 s0_1 a1 = some (r1, r2)) :
  Calls Try.prog 24 #[.pointer (some ⟨g, 0, none⟩), .int .i64 a1] wS fun e w' => e = .returned (.tuple #[]) ∧ IsS66 w wS w' g r1 r2 ∧ Below w.heap.size w w' := by
 have HI0 := Aside0.mk hI; have HB := Aside0.mk hB; clear hI hB; have H := h; unfold terrierref20_out_small.f at H; clear h
 by_cases c3 : a1 < 0
 ·
  rw [if_pos c3] at H; have c3b0 := decide_eq_true c3; clear c3; obtain ⟨y284, hy284⟩ : ∃ y_ : List Int, y_ = (([(a1) % 256] : List Int)) := ⟨_, rfl⟩
  replace H : ((terrierref20_out_add.f s0_0 true y284).bind fun bt287 => (some (bt287.1, bt287.2))) = some (r1, r2) := by first | (rw [hy284]; with_reducible exact H) | (have H2_ := (Option.bind_some _ _).symm.trans H; rw [hy284]; with_reducible exact H2_) | (have H2_ := (Option.bind_some _ _).symm.trans H; with_reducible exact H2_) | with_reducible exact H | (rw [hy284]; exact H) | exact H
  have Ny284 := Aside0.mk hy284; clear hy284; replace H := Option.bind_eq_some_iff.mp H; obtain ⟨⟨t287, t288⟩, A40, H⟩ := H; (try dsimp only at H); have A4 := Aside0.mk A40; clear A40; simp only [Option.some.injEq, Prod.mk.injEq] at H; obtain ⟨rfl, rfl⟩ := H; obtain ⟨⟨vbz5, HGz5, hgz5, hoz5⟩, hfz5⟩ := HI0.out; have hcz5_1 := cellS66_1 HGz5; have hfz5_1 := blk_frozen HGz5 1; clear HGz5 hgz5 hoz5 hfz5
  go_enter Try.func24, Try.ntmps24
  go_wp2_with (first | ((with_reducible refine gate_dst (N := 16) rfl ?_); refine Kd.R_lit (Kd.int .u8) _ 5 ?hg (N := 16) ?hd (xs := ([(a1) % 256] : List Int)) (inner := [.int .u8 ((a1) % 256)]) (ok := fun _ => True) (okp := fun _ => True) ?hr ?hp (fun _ hk => hk) trivial (Below.refl _ _) (Nat.le_refl _) (by simp) ?_; (case hd => rfl); (case hg => rfl); (case hr => first | (go_simp; done) | (go_simp; rfl)); (case hp => exact (Reps.one (show Kd.M (Kd.int .u8) _ _ _ ((a1) % 256) [.int .u8 ((a1) % 256)] from rfl) (Reps.none _ _))); intro v285 w6 ho7 hb hg_ hnew_; clear hg_ hnew_; (first | rw [← Ny284.out] at ho7 | (simp only [Int.reduceToNat] at ho7; rw [← Ny284.out] at ho7)); have HO286 := Ext.a (Kd.R_lower ho7 (below_size (Ext.s1 (IsS66.ge HI0.out) HB.out))); replace HB := Ext.a (below_step (Ext.s1 (IsS66.ge HI0.out) HB.out) hb); replace HI0 := Ext.a (IsS66.below (show IsS66 w wS (wS.setCell ⟨g, 1, none⟩ (.bool true)) g s0_0 true from by exact IsS66.go HI0.out) hb); clear hb ho7; obtain ⟨Ao8, co8, eo8⟩ := Kd.R_slice HO286.out; subst eo8) | ((with_reducible refine gate_callee (f := 32) rfl ?_); refine Ext.gs (some 17) rfl rfl Try.func32 #[.pointer (some ⟨g, 0, none⟩), .slice Ao8 y284.length co8] rfl ?_; (with_reducible refine (terrierref20_out_add.calls g s0_0 true _ _ y284 t287 t288 w _ ?side1 ?side2 ?side3 ?side4 A4.out).mono ?_); (case side1 => refine IsS66.now (wF := wS) ?_; repeat (first | (with_reducible first | exact HI0.out | apply IsS66.alloc | apply IsS66.drewN | apply IsS66.drew | apply IsS66.set_1) | exact HI0.out)); (case side2 => exact Ext.s1 (IsS66.ge HI0.out) HB.out); (case side3 => exact Ext.nC (Kd.R_reads' HO286.out).2.2); (case side4 => exact (Kd.R_reads' HO286.out).2.1); rintro e w9 ⟨rfl, hi, hb⟩; refine ⟨_, rfl, ?_⟩; replace HB := Ext.a (hb); replace HI0 := Ext.a (IsS66.then (IsS66.go HI0.out) hi); clear HO286; (try clear hb hi)))
  first | go_end0 | ((try simp only [Exit.inBlock, Exit.then]); refine bodyPost_ret (results_none rfl _ _ _) rfl ?_)
  exact ⟨by first | rfl | (simp [errW_none, errW_some] <;> rfl) | (simp [*, errW_none, errW_some] <;> rfl), by exact IsS66.go HI0.out, by exact Ext.s1 (IsS66.ge HI0.out) HB.out⟩
 ·
  rw [if_neg c3] at H; have c3b0 := decide_eq_false c3; clear c3
  by_cases c10 : a1 > 255
  ·
   rw [if_pos c10] at H; have c10b0 := decide_eq_true c10; clear c10; obtain ⟨y289, hy289⟩ : ∃ y_ : List Int, y_ = (([(a1) % 256] : List Int)) := ⟨_, rfl⟩
   replace H : ((terrierref20_out_add.f s0_0 true y289).bind fun bt292 => (some (bt292.1, bt292.2))) = some (r1, r2) := by first | (rw [hy289]; with_reducible exact H) | (have H2_ := (Option.bind_some _ _).symm.trans H; rw [hy289]; with_reducible exact H2_) | (have H2_ := (Option.bind_some _ _).symm.trans H; with_reducible exact H2_) | with_reducible exact H | (rw [hy289]; exact H) | exact H
   have Ny289 := Aside0.mk hy289; clear hy289; replace H := Option.bind_eq_some_iff.mp H; obtain ⟨⟨t292, t293⟩, A110, H⟩ := H; (try dsimp only at H); have A11 := Aside0.mk A110; clear A110; simp only [Option.some.injEq, Prod.mk.injEq] at H; obtain ⟨rfl, rfl⟩ := H; obtain ⟨⟨vbz12, HGz12, hgz12, hoz12⟩, hfz12⟩ := HI0.out; have hcz12_1 := cellS66_1 HGz12; have hfz12_1 := blk_frozen HGz12 1; clear HGz12 hgz12 hoz12 hfz12
   go_enter Try.func24, Try.ntmps24
   go_wp2_with (first | ((with_reducible refine gate_dst (N := 16) rfl ?_); refine Kd.R_lit (Kd.int .u8) _ 5 ?hg (N := 16) ?hd (xs := ([(a1) % 256] : List Int)) (inner := [.int .u8 ((a1) % 256)]) (ok := fun _ => True) (okp := fun _ => True) ?hr ?hp (fun _ hk => hk) trivial (Below.refl _ _) (Nat.le_refl _) (by simp) ?_; (case hd => rfl); (case hg => rfl); (case hr => first | (go_simp; done) | (go_simp; rfl)); (case hp => exact (Reps.one (show Kd.M (Kd.int .u8) _ _ _ ((a1) % 256) [.int .u8 ((a1) % 256)] from rfl) (Reps.none _ _))); intro v290 w13 ho14 hb hg_ hnew_; clear hg_ hnew_; (first | rw [← Ny289.out] at ho14 | (simp only [Int.reduceToNat] at ho14; rw [← Ny289.out] at ho14)); have HO291 := Ext.a (Kd.R_lower ho14 (below_size (Ext.s1 (IsS66.ge HI0.out) HB.out))); replace HB := Ext.a (below_step (Ext.s1 (IsS66.ge HI0.out) HB.out) hb); replace HI0 := Ext.a (IsS66.below (show IsS66 w wS (wS.setCell ⟨g, 1, none⟩ (.bool true)) g s0_0 true from by exact IsS66.go HI0.out) hb); clear hb ho14; obtain ⟨Ao15, co15, eo15⟩ := Kd.R_slice HO291.out; subst eo15) | ((with_reducible refine gate_callee (f := 32) rfl ?_); refine Ext.gs (some 17) rfl rfl Try.func32 #[.pointer (some ⟨g, 0, none⟩), .slice Ao15 y289.length co15] rfl ?_; (with_reducible refine (terrierref20_out_add.calls g s0_0 true _ _ y289 t292 t293 w _ ?side1 ?side2 ?side3 ?side4 A11.out).mono ?_); (case side1 => refine IsS66.now (wF := wS) ?_; repeat (first | (with_reducible first | exact HI0.out | apply IsS66.alloc | apply IsS66.drewN | apply IsS66.drew | apply IsS66.set_1) | exact HI0.out)); (case side2 => exact Ext.s1 (IsS66.ge HI0.out) HB.out); (case side3 => exact Ext.nC (Kd.R_reads' HO291.out).2.2); (case side4 => exact (Kd.R_reads' HO291.out).2.1); rintro e w16 ⟨rfl, hi, hb⟩; refine ⟨_, rfl, ?_⟩; replace HB := Ext.a (hb); replace HI0 := Ext.a (IsS66.then (IsS66.go HI0.out) hi); clear HO291; (try clear hb hi)))
   first | go_end0 | ((try simp only [Exit.inBlock, Exit.then]); refine bodyPost_ret (results_none rfl _ _ _) rfl ?_)
   exact ⟨by first | rfl | (simp [errW_none, errW_some] <;> rfl) | (simp [*, errW_none, errW_some] <;> rfl), by exact IsS66.go HI0.out, by exact Ext.s1 (IsS66.ge HI0.out) HB.out⟩
  ·
   rw [if_neg c10] at H; have c10b0 := decide_eq_false c10; clear c10; obtain ⟨y294, hy294⟩ : ∃ y_ : List Int, y_ = (([(a1) % 256] : List Int)) := ⟨_, rfl⟩
   replace H : ((terrierref20_out_add.f s0_0 s0_1 y294).bind fun bt297 => (some (bt297.1, bt297.2))) = some (r1, r2) := by first | (rw [hy294]; with_reducible exact H) | (have H2_ := (Option.bind_some _ _).symm.trans H; rw [hy294]; with_reducible exact H2_) | (have H2_ := (Option.bind_some _ _).symm.trans H; with_reducible exact H2_) | with_reducible exact H | (rw [hy294]; exact H) | exact H
   have Ny294 := Aside0.mk hy294; clear hy294; replace H := Option.bind_eq_some_iff.mp H; obtain ⟨⟨t297, t298⟩, A170, H⟩ := H; (try dsimp only at H); have A17 := Aside0.mk A170; clear A170; simp only [Option.some.injEq, Prod.mk.injEq] at H; obtain ⟨rfl, rfl⟩ := H
   go_enter Try.func24, Try.ntmps24
   go_wp2_with (first | ((with_reducible refine gate_dst (N := 16) rfl ?_); refine Kd.R_lit (Kd.int .u8) _ 5 ?hg (N := 16) ?hd (xs := ([(a1) % 256] : List Int)) (inner := [.int .u8 ((a1) % 256)]) (ok := fun _ => True) (okp := fun _ => True) ?hr ?hp (fun _ hk => hk) trivial (Below.refl _ _) (Nat.le_refl _) (by simp) ?_; (case hd => rfl); (case hg => rfl); (case hr => first | (go_simp; done) | (go_simp; rfl)); (case hp => exact (Reps.one (show Kd.M (Kd.int .u8) _ _ _ ((a1) % 256) [.int .u8 ((a1) % 256)] from rfl) (Reps.none _ _))); intro v295 w18 ho19 hb hg_ hnew_; clear hg_ hnew_; (first | rw [← Ny294.out] at ho19 | (simp only [Int.reduceToNat] at ho19; rw [← Ny294.out] at ho19)); have HO296 := Ext.a (Kd.R_lower ho19 (below_size (Ext.s1 (IsS66.ge HI0.out) HB.out))); replace HB := Ext.a (below_step (Ext.s1 (IsS66.ge HI0.out) HB.out) hb); replace HI0 := Ext.a (IsS66.below (IsS66.go HI0.out) hb); clear hb ho19; obtain ⟨Ao20, co20, eo20⟩ := Kd.R_slice HO296.out; subst eo20) | ((with_reducible refine gate_callee (f := 32) rfl ?_); refine Ext.gs (some 17) rfl rfl Try.func32 #[.pointer (some ⟨g, 0, none⟩), .slice Ao20 y294.length co20] rfl ?_; (with_reducible refine (terrierref20_out_add.calls g s0_0 s0_1 _ _ y294 t297 t298 w _ ?side1 ?side2 ?side3 ?side4 A17.out).mono ?_); (case side1 => refine IsS66.now (wF := wS) ?_; repeat (first | (with_reducible first | exact HI0.out | apply IsS66.alloc | apply IsS66.drewN | apply IsS66.drew | apply IsS66.set_1) | exact HI0.out)); (case side2 => exact Ext.s1 (IsS66.ge HI0.out) HB.out); (case side3 => exact Ext.nC (Kd.R_reads' HO296.out).2.2); (case side4 => exact (Kd.R_reads' HO296.out).2.1); rintro e w21 ⟨rfl, hi, hb⟩; refine ⟨_, rfl, ?_⟩; replace HB := Ext.a (hb); replace HI0 := Ext.a (IsS66.then (IsS66.go HI0.out) hi); clear HO296; (try clear hb hi)))
   first | go_end0 | ((try simp only [Exit.inBlock, Exit.then]); refine bodyPost_ret (results_none rfl _ _ _) rfl ?_)
   exact ⟨by first | rfl | (simp [errW_none, errW_some] <;> rfl) | (simp [*, errW_none, errW_some] <;> rfl), by exact IsS66.go HI0.out, by exact Ext.s1 (IsS66.ge HI0.out) HB.out⟩



/-! ### terrierref01_Put: function 33 -/
def terrierref01_Put.l0 : Nat → Int → Int → List Int → Int → Option (List Int)
 | 0, _, _, _, _ => none
 | k + 1, x0, x1, x5, x6 => if x6 < x1 then ((some (([(Int.tmod x0 256) % 256] : List Int) : List Int)).bind fun y302 => (if y302.length + x5.length < 140737488355328 then (terrierref01_Put.l0 k (IntKind.u64.wrap (Int.tdiv x0 256)) x1 (y302 ++ x5) (wrap64 (x6 + 1))) else (none))) else (some x5)
def terrierref01_Put.f (k : Nat) (a0 : Int) (a1 : Int) : Option (List Int) := terrierref01_Put.l0 k a0 a1 (([] : List Int)) 0
theorem terrierref01_Put.mono_l : ∀ k, (∀ y0 y1 y2 y3, LeO (terrierref01_Put.l0 k y0 y1 y2 y3) (terrierref01_Put.l0 (k + 1) y0 y1 y2 y3))
 | 0 => fun _ _ _ _ r h => by simp [terrierref01_Put.l0] at h
 | k + 1 => by
  have ih0 := terrierref01_Put.mono_l k
  ·
   intro y0 y1 y2 y3
   unfold terrierref01_Put.l0
   repeat' first
   | (with_reducible exact ih0 _ _ _ _)
   | (with_reducible exact LeO.refl _)
   | (with_reducible exact LeO.none _)
   | (with_reducible refine LeO.ite ?_ ?_)
   | (with_reducible refine LeO.bind ?_ (fun _ => ?_))
   | exact ih0 _ _ _ _
   | exact LeO.none _
   | refine LeO.ite ?_ ?_
   | refine LeO.bind ?_ (fun _ => ?_)
theorem terrierref01_Put.mono : ∀ a0 a1 k, LeO (terrierref01_Put.f k a0 a1) (terrierref01_Put.f (k + 1) a0 a1) := by
 intro a0 a1 k
 have ih0 := terrierref01_Put.mono_l k; unfold terrierref01_Put.f
 repeat' first
   | (with_reducible exact ih0 _ _ _ _)
   | (with_reducible exact LeO.refl _)
   | (with_reducible exact LeO.none _)
   | (with_reducible refine LeO.ite ?_ ?_)
   | (with_reducible refine LeO.bind ?_ (fun _ => ?_))
   | exact ih0 _ _ _ _
   | exact LeO.none _
   | refine LeO.ite ?_ ?_
   | refine LeO.bind ?_ (fun _ => ?_)
set_option maxHeartbeats 8000000 in
set_option maxRecDepth 100000 in
theorem terrierref01_Put.calls (k : Nat) (a0 : Int) (a1 : Int) (r : List Int) (w : World) (h : terrierref01_Put.f k a0 a1 = some r) :
  Calls Try.prog 33 #[.int .u64 a0, .int .i64 a1] w fun e w' => ∃ v0_ : Value, e = .returned (v0_) ∧ Kd.R (Kd.int .u8) 5 w' w.heap.size (fun _ => True) v0_ r ∧ Below w.heap.size w w' := by
 have HB := Ext.a (Below.refl w.heap.size w); have H := h; unfold terrierref01_Put.f at H; clear h; obtain ⟨y299, hy299⟩ : ∃ y_ : List Int, y_ = (([] : List Int)) := ⟨_, rfl⟩
 replace H : (terrierref01_Put.l0 k a0 a1 y299 0) = some r := by first | (rw [hy299]; with_reducible exact H) | (have H2_ := (Option.bind_some _ _).symm.trans H; rw [hy299]; with_reducible exact H2_) | (have H2_ := (Option.bind_some _ _).symm.trans H; with_reducible exact H2_) | with_reducible exact H | (rw [hy299]; exact H) | exact H
 have Ny299 := Aside0.mk hy299; clear hy299; have H' := Aside0.mk H; clear H
 go_enter Try.func33, Try.ntmps33
 go_wp2_with (first | ((with_reducible refine gate_dst (N := 7) rfl ?_); refine Kd.R_lit (Kd.int .u8) _ 5 ?hg (N := 7) ?hd (xs := ([] : List Int)) (inner := []) (ok := fun _ => True) (okp := fun _ => True) ?hr ?hp (fun _ hk => hk) trivial (Below.refl _ _) (Nat.le_refl _) (by simp) ?_; (case hd => rfl); (case hg => rfl); (case hr => first | (go_simp; done) | (go_simp; rfl)); (case hp => exact (Reps.none _ _)); intro v300 w3 ho4 hb hg_ hnew_; clear hg_ hnew_; (first | rw [← Ny299.out] at ho4 | (simp only [Int.reduceToNat] at ho4; rw [← Ny299.out] at ho4)); have HO301 := Ext.a (Kd.R_lower ho4 (below_size (Ext.nB HB.out))); replace HB := Ext.a (below_step (Ext.nB HB.out) hb); clear hb ho4))
 go_loopg [0, 5, 6] k (fun kq v0 v5 v6 w' => ∃ (x0_1 : Int) (x5_1 : List Int) (x6_1 : Int), v0 = .int .u64 x0_1 ∧ v6 = .int .i64 x6_1 ∧ Aside0 (terrierref01_Put.l0 kq x0_1 a1 x5_1 x6_1 = some r) ∧ Aside0 (kq ≤ k) ∧ Aside0 (Kd.R (Kd.int .u8) 5 w' w.heap.size (fun _ => True) v5 x5_1) ∧ Aside0 (Below w.heap.size w w'))
 case atStart => exact ⟨(a0), (y299), (0), (by first | rfl | (simp; done) | (simp [*]; done)), (by first | rfl | (simp; done) | (simp [*]; done)), H', ⟨Nat.le_refl _⟩, ⟨by exact Ext.nR HO301.out⟩, ⟨by exact Ext.nB HB.out⟩⟩
 case round =>
  clear H'; (try clear p2 c3); obtain ⟨x0_1, x5_1, x6_1, rfl, rfl, HA, HK1, HO_5, HB⟩ := hrel; cases gk with
  | zero => exact absurd HA.out (by simp [terrierref01_Put.l0])
  | succ k1 =>
   have H := HA.out; clear HA; simp only [terrierref01_Put.l0] at H
   by_cases c5 : x6_1 < a1
   ·
    rw [if_pos c5] at H; have c5b0 := decide_eq_true c5; clear c5; obtain ⟨y302, hy302⟩ : ∃ y_ : List Int, y_ = (([(Int.tmod x0_1 256) % 256] : List Int)) := ⟨_, rfl⟩
    replace H : (if y302.length + x5_1.length < 140737488355328 then (terrierref01_Put.l0 k1 (IntKind.u64.wrap (Int.tdiv x0_1 256)) a1 (y302 ++ x5_1) (wrap64 (x6_1 + 1))) else (none)) = some r := by first | (rw [hy302]; with_reducible exact H) | (have H2_ := (Option.bind_some _ _).symm.trans H; rw [hy302]; with_reducible exact H2_) | (have H2_ := (Option.bind_some _ _).symm.trans H; with_reducible exact H2_) | with_reducible exact H | (rw [hy302]; exact H) | exact H
    have Ny302 := Aside0.mk hy302; clear hy302
    by_cases c6 : y302.length + x5_1.length < 140737488355328
    ·
     rw [if_pos c6] at H; have LMc6 := Aside0.mk c6; clear c6; obtain ⟨y305, hy305⟩ : ∃ y_ : List Int, y_ = (y302 ++ x5_1) := ⟨_, rfl⟩
     replace H : (terrierref01_Put.l0 k1 (IntKind.u64.wrap (Int.tdiv x0_1 256)) a1 y305 (wrap64 (x6_1 + 1))) = some r := by first | (rw [hy305]; with_reducible exact H) | (have H2_ := (Option.bind_some _ _).symm.trans H; rw [hy305]; with_reducible exact H2_) | (have H2_ := (Option.bind_some _ _).symm.trans H; with_reducible exact H2_) | with_reducible exact H | (rw [hy305]; exact H) | exact H
     have Ny305 := Aside0.mk hy305; clear hy305; have H' := Aside0.mk H; clear H
     go_wp2_with (first | ((with_reducible refine gate_dst (N := 16) rfl ?_); refine Kd.R_lit (Kd.int .u8) _ 5 ?hg (N := 16) ?hd (xs := ([(Int.tmod x0_1 256) % 256] : List Int)) (inner := [.int .u8 ((Int.tmod x0_1 256) % 256)]) (ok := fun _ => True) (okp := fun _ => True) ?hr ?hp (fun _ hk => hk) trivial (Below.refl _ _) (Nat.le_refl _) (by simp) ?_; (case hd => rfl); (case hg => rfl); (case hr => first | (go_simp; done) | (go_simp; rfl)); (case hp => exact (Reps.one (show Kd.M (Kd.int .u8) _ _ _ ((Int.tmod x0_1 256) % 256) [.int .u8 ((Int.tmod x0_1 256) % 256)] from rfl) (Reps.none _ _))); intro v303 w7 ho8 hb hg_ hnew_; clear hg_ hnew_; (first | rw [← Ny302.out] at ho8 | (simp only [Int.reduceToNat] at ho8; rw [← Ny302.out] at ho8)); have HO304 := Ext.a (Kd.R_lower (Kd.R_new' ho8 (Kd.R_lt (Ext.nR HO_5.out))) (below_size (Ext.nB HB.out))); replace HO_5 := Ext.a (Kd.R_elder' (Ext.nR HO_5.out) (Kd.R_base ho8) hb); replace HB := Ext.a (below_step (Ext.nB HB.out) hb); clear hb ho8; obtain ⟨Ao10, co10, eo10⟩ := Kd.R_slice HO_5.out; subst eo10) | ((with_reducible refine gate_builtin (b := .append) (xs := #[.tmp 16, .tmp 17]) rfl ?_); at_builtin; refine Kd.R_append_rows (Kd.int .u8) (w0 := w) w.heap.size rfl (.tmp 16) (.tmp 17) 36 5 (.int .u8 0) 1 rfl Try.underlying36 info5 rfl (by decide) (by omega) v303 y302 x5_1 _ _ _ (fun k_ => some k_ ≠ (.slice Ao10 x5_1.length co10 : Value).ownBlock) (fun _ => False) rfl rfl ?aO ?aR (fun _ _ h => h) (fun _ h => h.elim) ?aF ?aB ?aS ?aL ?_; (case aR => exact Ext.nC (Kd.R_reads' HO_5.out).2.2); (case aB => exact (Ext.nB HB.out)); (case aF => exact (fun k_ hk => Kd.fresh' (Kd.R_lt (Ext.nR HO_5.out)) k_ hk)); (case aO => exact (Ext.nR (Kd.R_mono HO304.out (fun _ hk => hk.2)))); (case aS => exact (below_size (Ext.nB HB.out))); (case aL => have := LMc6.out; omega); intro v306 w9 ho hb hg hat; rw [← Ny305.out] at ho; replace HO_5 := Ext.a (Kd.R_after (ok := (fun _ => True)) (Ext.nR HO_5.out) hg hat); replace HB := Ext.a (hb); have HO307 := Ext.a (ho); clear HO304; clear ho hb hg hat))
     go_roundg k1
     case measure => have := HK1.out; omega
     case rel => exact ⟨(IntKind.u64.wrap (Int.tdiv x0_1 256)), (y305), (wrap64 (x6_1 + 1)), (by first | rfl | (simp; done) | (simp [*]; done)), (by first | rfl | (simp; done) | (simp [*]; done)), H', ⟨by have := HK1.out; omega⟩, ⟨by (with_reducible repeat (first | apply Kd.R_alloc | apply Kd.R_drewN | apply Kd.R_drew)); exact Kd.R_mono HO307.out (fun _ hk => trivial)⟩, ⟨by exact Ext.nB HB.out⟩⟩
    · rw [if_neg c6] at H; exact absurd H (by simp)
   ·
    rw [if_neg c5] at H; have c5b0 := decide_eq_false c5; clear c5; obtain rfl := Option.some.inj H
    go_wp2
    go_ret
    exact ⟨_, by first | rfl | (simp [errW_none, errW_some] <;> rfl) | (simp [*, errW_none, errW_some] <;> rfl), by exact Ext.nR HO_5.out, by exact Ext.nB HB.out⟩



/-! ### terrierref20_out_num: function 25 -/
def terrierref20_out_num.f (k : Nat) (s0_0 : List Int) (s0_1 : Bool) (a1 : Int) : Option (List Int × Bool) := (terrierref01_Put.f k (IntKind.u64.wrap (a1)) 8).bind fun t308 => ((terrierref20_out_add.f s0_0 s0_1 t308).bind fun bt311 => (some (bt311.1, bt311.2)))
theorem terrierref20_out_num.mono : ∀ a0 a1 a2 k, LeO (terrierref20_out_num.f k a0 a1 a2) (terrierref20_out_num.f (k + 1) a0 a1 a2) := by
 intro a0 a1 a2 k
 unfold terrierref20_out_num.f
 repeat' first
   | (with_reducible exact terrierref01_Put.mono _ _ _)
   | (with_reducible exact LeO.refl _)
   | (with_reducible exact LeO.none _)
   | (with_reducible refine LeO.ite ?_ ?_)
   | (with_reducible refine LeO.bind ?_ (fun _ => ?_))
   | exact terrierref01_Put.mono _ _ _
   | exact LeO.none _
   | refine LeO.ite ?_ ?_
   | refine LeO.bind ?_ (fun _ => ?_)
set_option maxHeartbeats 8000000 in
set_option maxRecDepth 100000 in
theorem terrierref20_out_num.calls (k : Nat) (g : Nat) (s0_0 : List Int) (s0_1 : Bool) (a1 : Int) (r1 : List Int) (r2 : Bool) (w wS : World) (hI : IsS66 w wS wS g s0_0 s0_1) (hB : Below w.heap.size w wS) (h : terrierref20_out_num.f k s0_0 s0_1 a1 = some (r1, r2)) :
  Calls Try.prog 25 #[.pointer (some ⟨g, 0, none⟩), .int .i64 a1] wS fun e w' => e = .returned (.tuple #[]) ∧ IsS66 w wS w' g r1 r2 ∧ Below w.heap.size w w' := by
 have HI0 := Aside0.mk hI; have HB := Aside0.mk hB; clear hI hB; have H := h; unfold terrierref20_out_num.f at H; clear h; replace H := Option.bind_eq_some_iff.mp H; obtain ⟨t308, A30, H⟩ := H; (try dsimp only at H); have A3 := Aside0.mk A30; clear A30; replace H := Option.bind_eq_some_iff.mp H; obtain ⟨⟨t311, t312⟩, A40, H⟩ := H; (try dsimp only at H); have A4 := Aside0.mk A40; clear A40; simp only [Option.some.injEq, Prod.mk.injEq] at H; obtain ⟨rfl, rfl⟩ := H
 go_enter Try.func25, Try.ntmps25
 go_wp2_with (first | ((with_reducible refine gate_callee (f := 33) rfl ?_); refine Ext.gs (some 7) rfl rfl Try.func33 #[.int .u64 (IntKind.u64.wrap (a1)), .int .i64 8] rfl ?_; (with_reducible refine (terrierref01_Put.calls k (IntKind.u64.wrap (a1)) 8 t308 _ A3.out).mono ?_); rintro e w5 ⟨v309, rfl, ho0, hb⟩; refine ⟨_, rfl, ?_⟩; have HO310 := Ext.a (Kd.R_lower ho0 (below_size (Ext.s1 (IsS66.ge HI0.out) HB.out))); replace HB := Ext.a (below_step (Ext.s1 (IsS66.ge HI0.out) HB.out) hb); replace HI0 := Ext.a (IsS66.below (IsS66.go HI0.out) hb); (try clear hb ho0); obtain ⟨Ao6, co6, eo6⟩ := Kd.R_slice HO310.out; subst eo6) | ((with_reducible refine gate_callee (f := 32) rfl ?_); refine Ext.gs (some 8) rfl rfl Try.func32 #[.pointer (some ⟨g, 0, none⟩), .slice Ao6 t308.length co6] rfl ?_; (with_reducible refine (terrierref20_out_add.calls g s0_0 s0_1 _ _ t308 t311 t312 w _ ?side1 ?side2 ?side3 ?side4 A4.out).mono ?_); (case side1 => refine IsS66.now (wF := wS) ?_; repeat (first | (with_reducible first | exact HI0.out | apply IsS66.alloc | apply IsS66.drewN | apply IsS66.drew | apply IsS66.set_1) | exact HI0.out)); (case side2 => exact Ext.s1 (IsS66.ge HI0.out) HB.out); (case side3 => exact Ext.nC (Kd.R_reads' HO310.out).2.2); (case side4 => exact (Kd.R_reads' HO310.out).2.1); rintro e w7 ⟨rfl, hi, hb⟩; refine ⟨_, rfl, ?_⟩; replace HB := Ext.a (hb); replace HI0 := Ext.a (IsS66.then (IsS66.go HI0.out) hi); clear HO310; (try clear hb hi)))
 first | go_end0 | ((try simp only [Exit.inBlock, Exit.then]); refine bodyPost_ret (results_none rfl _ _ _) rfl ?_)
 exact ⟨by first | rfl | (simp [errW_none, errW_some] <;> rfl) | (simp [*, errW_none, errW_some] <;> rfl), by exact IsS66.go HI0.out, by exact Ext.s1 (IsS66.ge HI0.out) HB.out⟩

end Go.Proofs.Ytlhjdmpclfhoeaa.PC
