-- Written by wip/printx.py, a program of this work over the kit's print, for this claim.
import Derived.Test.YtlhjdmpclfhoeaaPCx0
namespace Go.Proofs.Ytlhjdmpclfhoeaa.PC
open Go.RowKit Go.Proofs.YtlhjdmpclfhoeaaW.PrintWords Go.Proofs.YtlhjdmpclfhoeaaW.PrintLast Go.Proofs.YtlhjdmpclfhoeaaW.PrintMore
attribute [local go_sem] max2_int min2_int max_two min_two max_three min_three max_four min_four   -- for this text's walks alone
attribute [local go_sem] Ext.pick_u8 Ext.pick_u32 Ext.pick_u64
set_option linter.unusedVariables false
set_option linter.unusedSimpArgs false



/-- A writer of type 62 at block g of W: its row is its own; since wF nothing of another type has changed. -/
def IsS62 (w0 wF W : World) (g : Nat) (f0 : List Int) (f1 : Bool) : Prop := (∃ v : Value, W.heap[g]? = some (.cells #[v, .bool f1] 62 (0, 0)) ∧ w0.heap.size ≤ g ∧ Kd.R (Kd.int .u8) 5 W w0.heap.size (fun _ => True) v f0) ∧ Ext.Fr wF W g 5
theorem IsS62.below {w0 wF W : World} {g : Nat} {f0 : List Int} {f1 : Bool} {W1 : World} (h : IsS62 w0 wF W g f0 f1) (hw : Below W.heap.size W W1) : IsS62 w0 wF W1 g f0 f1 := by
 obtain ⟨⟨v, hb, hg, ho⟩, hf⟩ := h
 exact ⟨⟨v, blk_below hb hw, hg, Kd.R_below ho hw⟩, hf.below hw⟩
theorem IsS62.alloc {w0 wF W : World} {g : Nat} {f0 : List Int} {f1 : Bool} (h : IsS62 w0 wF W g f0 f1) (o : Obj) : IsS62 w0 wF (W.alloc o) g f0 f1 := h.below (below_alloc (Below.refl _ _) o)
theorem IsS62.drewN {w0 wF W : World} {g : Nat} {f0 : List Int} {f1 : Bool} (h : IsS62 w0 wF W g f0 f1) (m : Nat) : IsS62 w0 wF (W.drewN m) g f0 f1 := h.below (pw_below_drewN (Below.refl _ _) m)
theorem IsS62.drew {w0 wF W : World} {g : Nat} {f0 : List Int} {f1 : Bool} (h : IsS62 w0 wF W g f0 f1) : IsS62 w0 wF W.drew g f0 f1 := h.below (below_drew (Below.refl _ _))
theorem IsS62.at_ {w0 wF W : World} {g : Nat} {f0 : List Int} {f1 : Bool} {w' : World} {m : Nat} (hq : W.drewN m = w') (h : IsS62 w0 wF W g f0 f1) : IsS62 w0 wF w' g f0 f1 := by subst hq; exact IsS62.drewN h m
theorem IsS62.lt {w0 wF W : World} {g : Nat} {f0 : List Int} {f1 : Bool} (h : IsS62 w0 wF W g f0 f1) : g < W.heap.size := by
 obtain ⟨⟨v, hb, hg, ho⟩, hf⟩ := h
 exact blk_lt hb
theorem IsS62.ge {w0 wF W : World} {g : Nat} {f0 : List Int} {f1 : Bool} (h : IsS62 w0 wF W g f0 f1) : w0.heap.size ≤ g := by
 obtain ⟨⟨v, hb, hg, ho⟩, hf⟩ := h
 exact hg
theorem IsS62.now {w0 wF W : World} {g : Nat} {f0 : List Int} {f1 : Bool} (h : IsS62 w0 wF W g f0 f1) : IsS62 w0 W W g f0 f1 := ⟨h.1, Ext.Fr.refl _ _ _⟩
theorem IsS62.then {w0 wF W : World} {g : Nat} {f0 : List Int} {f1 : Bool} {W1 : World} {f0' : List Int} {f1' : Bool} (h : IsS62 w0 wF W g f0 f1) (h' : IsS62 w0 W W1 g f0' f1') : IsS62 w0 wF W1 g f0' f1' := ⟨h'.1, h.2.trans h'.2⟩
theorem IsS62.blk {w0 wF W : World} {g : Nat} {f0 : List Int} {f1 : Bool} (h : IsS62 w0 wF W g f0 f1) {a : Nat} {cs : Array Value} {t : TypeId} {fr : Nat × Nat} (hb : wF.heap[a]? = some (.cells cs t fr)) (hne : a ≠ g) (ht : t ≠ 5) : W.heap[a]? = some (.cells cs t fr) := h.2.blk hb hne ht
theorem IsS62.far {w0 wF W : World} {g : Nat} {f0 : List Int} {f1 : Bool} (h : IsS62 w0 wF W g f0 f1) {gb t : Nat} (hb : Ext.Typ W gb t) (hne : g ≠ gb) (hge : wF.heap.size ≤ gb) (ht : ∀ q, q ∈ 5 :: (Kd.int .u8).E → q ≠ t) (i : Nat) (u : Value) : IsS62 w0 wF (W.setCell ⟨gb, i, none⟩ u) g f0 f1 := by
 obtain ⟨⟨v, hx, hg, ho⟩, hf⟩ := h; obtain ⟨cs, hc⟩ := hb
 exact ⟨⟨v, blk_far hx hne u, hg, Kd.R_mono (Kd.R_far (p := ⟨gb, i, none⟩) (Kd.R_types ho hc ht) (fun _ hk => hk.2) u) (fun _ _ => trivial : ∀ _, _ → True)⟩, hf.far hge i u⟩
theorem IsS62.keepb {w0 wF W : World} {g : Nat} {f0 : List Int} {f1 : Bool} {W1 : World} {gb t : Nat} (h : IsS62 w0 wF W g f0 f1) (hk : KeepBut W W1 gb none) (hb : Ext.Typ W gb t) (hne : g ≠ gb) (hge : wF.heap.size ≤ gb) (ht : ∀ q, q ∈ 5 :: (Kd.int .u8).E → q ≠ t) : IsS62 w0 wF W1 g f0 f1 := by
 obtain ⟨⟨v, hx, hg, ho⟩, hf⟩ := h; obtain ⟨cs, hc⟩ := hb
 exact ⟨⟨v, KeepBut.blk hk hx hne (by simp), hg, Kd.R_mono (Kd.R_keep (Kd.R_types ho hc ht) hk (fun _ h => h.2)) (fun _ _ => trivial : ∀ _, _ → True)⟩, hf.keep hk hge⟩
theorem cellS62_1 {W : World} {g : Nat} {v : Value} {f1 : Bool} (h : W.heap[g]? = some (.cells #[v, .bool f1] 62 (0, 0))) : W.cell? ⟨g, 1, none⟩ = some (.bool f1) := (blk_cell h 1).trans rfl
theorem IsS62.set_1 {w0 wF W : World} {g : Nat} {f0 : List Int} {f1 : Bool} (h : IsS62 w0 wF W g f0 f1) (x : Bool) : IsS62 w0 wF (W.setCell ⟨g, 1, none⟩ (.bool x)) g f0 x := by
 obtain ⟨⟨v, hb, hg, ho⟩, hf⟩ := h
 exact ⟨⟨v, blk_put (cs' := #[v, .bool x]) hb 1 (.bool x) rfl, hg, Kd.R_mono (Kd.R_far (p := ⟨g, 1, none⟩) (Kd.R_types ho hb (by decide)) (fun _ hk => hk.2) (.bool x)) (fun _ _ => trivial : ∀ _, _ → True)⟩, hf.setg 1 _⟩

class IsS62.L (g : Nat) (f0 : List Int) (f1 : Bool) (W W' : World) (f0' : outParam (List Int)) (f1' : outParam (Bool)) : Prop where
  out : ∀ w0 wF : World, IsS62 w0 wF W g f0 f1 → IsS62 w0 wF W' g f0' f1'
instance IsS62.L.refl (g : Nat) (f0 : List Int) (f1 : Bool) (W : World) : IsS62.L g f0 f1 W W f0 f1 := ⟨fun _ _ h => h⟩
instance IsS62.L.alloc (g : Nat) (f0 : List Int) (f1 : Bool) (W W' : World) (f0' : (List Int)) (f1' : (Bool)) (o : Obj) [k : IsS62.L g f0 f1 W W' f0' f1'] : IsS62.L g f0 f1 W (W'.alloc o) f0' f1' := ⟨fun _ _ h => IsS62.alloc (k.out _ _ h) o⟩
instance IsS62.L.drewN (g : Nat) (f0 : List Int) (f1 : Bool) (W W' : World) (f0' : (List Int)) (f1' : (Bool)) (n : Nat) [k : IsS62.L g f0 f1 W W' f0' f1'] : IsS62.L g f0 f1 W (W'.drewN n) f0' f1' := ⟨fun _ _ h => IsS62.drewN (k.out _ _ h) n⟩
instance IsS62.L.drew (g : Nat) (f0 : List Int) (f1 : Bool) (W W' : World) (f0' : (List Int)) (f1' : (Bool)) [k : IsS62.L g f0 f1 W W' f0' f1'] : IsS62.L g f0 f1 W W'.drew f0' f1' := ⟨fun _ _ h => IsS62.drew (k.out _ _ h)⟩
instance IsS62.L.set_1 (g : Nat) (f0 : List Int) (f1 : Bool) (W W' : World) (f0' : (List Int)) (f1' : (Bool)) (x : Bool) [k : IsS62.L g f0 f1 W W' f0' f1'] : IsS62.L g f0 f1 W (W'.setCell ⟨g, 1, none⟩ (.bool x)) f0' x := ⟨fun _ _ h => IsS62.set_1 (k.out _ _ h) x⟩
theorem IsS62.go {g : Nat} {f0 : List Int} {f1 : Bool} {W W' : World} {f0' : List Int} {f1' : Bool} {w0 wF : World} (h : IsS62 w0 wF W g f0 f1) [k : IsS62.L g f0 f1 W W' f0' f1'] : IsS62 w0 wF W' g f0' f1' := k.out w0 wF h

/-! ### reply_writer_small: function 41 -/
def reply_writer_small.f (s0_0 : List Int) (s0_1 : Bool) (a1 : Int) : Option (List Int × Bool) := if s0_1 = true then (if s0_0.length < 140737488355328 then (some ((s0_0 ++ [(a1) % 256]), true)) else (none)) else (if a1 < 0 then (if s0_0.length < 140737488355328 then (some ((s0_0 ++ [(a1) % 256]), true)) else (none)) else (if s0_0.length < 140737488355328 then (some ((s0_0 ++ [(a1) % 256]), decide (a1 > 255))) else (none)))
set_option maxHeartbeats 8000000 in
set_option maxRecDepth 100000 in
theorem reply_writer_small.calls (g : Nat) (s0_0 : List Int) (s0_1 : Bool) (a1 : Int) (r1 : List Int) (r2 : Bool) (w wS : World) (hI : IsS62 w wS wS g s0_0 s0_1) (hB : Below w.heap.size w wS) (h : reply_writer_small.f s0_0 s0_1 a1 = some (r1, r2)) :
  Calls Try.prog 41 #[.pointer (some ⟨g, 0, none⟩), .int .i64 a1] wS fun e w' => e = .returned (.tuple #[]) ∧ IsS62 w wS w' g r1 r2 ∧ Below w.heap.size w w' := by
 have HI0 := Aside0.mk hI; have HB := Aside0.mk hB; clear hI hB; have H := h; unfold reply_writer_small.f at H; clear h
 by_cases c3 : s0_1 = true
 ·
  subst c3; rw [if_pos rfl] at H
  by_cases c4 : s0_0.length < 140737488355328
  ·
   rw [if_pos c4] at H; have LMc4 := Aside0.mk c4; clear c4; obtain ⟨y103, hy103⟩ : ∃ y_ : List Int, y_ = (s0_0 ++ [(a1) % 256]) := ⟨_, rfl⟩
   replace H : (some (y103, true)) = some (r1, r2) := by first | (rw [hy103]; with_reducible exact H) | (have H2_ := (Option.bind_some _ _).symm.trans H; rw [hy103]; with_reducible exact H2_) | (have H2_ := (Option.bind_some _ _).symm.trans H; with_reducible exact H2_) | with_reducible exact H | (rw [hy103]; exact H) | exact H
   have Ny103 := Aside0.mk hy103; clear hy103; simp only [Option.some.injEq, Prod.mk.injEq] at H; obtain ⟨rfl, rfl⟩ := H; obtain ⟨⟨vbz5, HGz5, hgz5, hoz5⟩, hfz5⟩ := HI0.out; have hcz5_1 := cellS62_1 HGz5; have hfz5_1 := blk_frozen HGz5 1; clear HGz5 hgz5 hoz5 hfz5; obtain ⟨⟨v101, HGz6, hgz6, hoz6⟩, hfz6⟩ := HI0.out; have hcz6_0 := (blk_cell HGz6 0).trans rfl; have hcz6_1 := cellS62_1 HGz6; have hfz6_0 := blk_frozen HGz6 0; have hfz6_1 := blk_frozen HGz6 1; have HO102 := Aside0.mk hoz6; have HX0 := Aside0.mk HGz6; have GE0 := Aside0.mk hgz6; have GW0 := GE0; have HF0 := Aside0.mk hfz6; clear HGz6 hgz6 hoz6 hfz6 HI0
   go_enter Try.func41, Try.ntmps41
   go_wp2_with (first | ((with_reducible refine gate_builtin (b := .append) (xs := #[.tmp 23, .tmp 26]) rfl ?_); at_builtin; refine Kd.R_append (Kd.int .u8) (w0 := w) w.heap.size rfl (.tmp 23) (.tmp 26) 36 5 (.int .u8 0) 1 rfl Try.underlying36 info5 rfl (by decide) (by omega) v101 s0_0 ((a1) % 256) [.int .u8 ((a1) % 256)] (fun _ => True) (fun _ => False) rfl (by first | (go_simp; done) | (go_simp; rfl)) ?aP (fun _ hk => hk.elim) ?aF ?aO ?aB ?aS ?aL ?_; (case aP => exact rfl); (case aB => exact (Ext.s1 GE0.out HB.out)); (case aF => exact (fun _ _ => trivial)); (case aO => exact (Ext.nR (Kd.R_mono (Kd.R_far (p := ⟨g, 1, none⟩) (Kd.R_types HO102.out HX0.out (by decide)) (fun _ hk => hk.2) (.bool true)) (fun _ hk => trivial)))); (case aS => exact (below_size (Ext.s1 GE0.out HB.out))); (case aL => have := LMc4.out; omega); intro v104 w7 ho hb hg hat; rw [← Ny103.out] at ho; replace HF0 := Ext.a (Ext.Fr.grown (Ext.fr HF0.out) (Ext.nR ((Kd.R_mono (Kd.R_far (p := ⟨g, 1, none⟩) (Kd.R_types HO102.out HX0.out (by decide)) (fun _ hk => hk.2) (.bool true)) (fun _ h_ => h_.1)))) hg); replace HX0 := Ext.a (blk_grown (g := g) (o := .cells #[v101, .bool true] 62 (0, 0)) (by refine blk_put (cs := #[v101, .bool true]) ?_ 1 _ rfl; exact HX0.out) hg (Kd.R_ne HO102.out HX0.out (by decide))); replace HB := Ext.a (hb); have HO105 := Ext.a (ho); clear HO102; clear ho hb hg hat; obtain ⟨Ao8, co8, eo8⟩ := Kd.R_slice HO105.out; subst eo8; have hcz9_0 : w7.cell? ⟨g, 0, none⟩ = some (v101) := (blk_cell HX0.out 0).trans rfl; have hcz9_1 : w7.cell? ⟨g, 1, none⟩ = some (.bool true) := (blk_cell HX0.out 1).trans rfl; have hfz9_0 := blk_frozen HX0.out 0; have hfz9_1 := blk_frozen HX0.out 1))
   first | go_end0 | ((try simp only [Exit.inBlock, Exit.then]); refine bodyPost_ret (results_none rfl _ _ _) rfl ?_)
   exact ⟨by first | rfl | (simp [errW_none, errW_some] <;> rfl) | (simp [*, errW_none, errW_some] <;> rfl), ⟨⟨_, (by refine blk_put (cs := #[v101, .bool true]) ?_ 0 _ rfl; exact HX0.out), GE0.out, (Ext.nR (Kd.R_mono (Kd.R_far (p := ⟨g, 0, none⟩) (Kd.R_types HO105.out HX0.out (by decide)) (fun _ hk => hk.2) (.slice Ao8 y103.length co8)) (fun _ hk => trivial)))⟩, Ext.fr HF0.out⟩, by exact Ext.s1 GE0.out HB.out⟩
  · rw [if_neg c4] at H; exact absurd H (by simp)
 ·
  replace c3 := Bool.eq_false_iff.mpr c3; subst c3; rw [if_neg Bool.false_ne_true] at H
  by_cases c10 : a1 < 0
  ·
   rw [if_pos c10] at H; have c10b0 := decide_eq_true c10; clear c10
   by_cases c11 : s0_0.length < 140737488355328
   ·
    rw [if_pos c11] at H; have LMc11 := Aside0.mk c11; clear c11; obtain ⟨y108, hy108⟩ : ∃ y_ : List Int, y_ = (s0_0 ++ [(a1) % 256]) := ⟨_, rfl⟩
    replace H : (some (y108, true)) = some (r1, r2) := by first | (rw [hy108]; with_reducible exact H) | (have H2_ := (Option.bind_some _ _).symm.trans H; rw [hy108]; with_reducible exact H2_) | (have H2_ := (Option.bind_some _ _).symm.trans H; with_reducible exact H2_) | with_reducible exact H | (rw [hy108]; exact H) | exact H
    have Ny108 := Aside0.mk hy108; clear hy108; simp only [Option.some.injEq, Prod.mk.injEq] at H; obtain ⟨rfl, rfl⟩ := H; obtain ⟨⟨vbz12, HGz12, hgz12, hoz12⟩, hfz12⟩ := HI0.out; have hcz12_1 := cellS62_1 HGz12; have hfz12_1 := blk_frozen HGz12 1; clear HGz12 hgz12 hoz12 hfz12; obtain ⟨⟨v106, HGz13, hgz13, hoz13⟩, hfz13⟩ := HI0.out; have hcz13_0 := (blk_cell HGz13 0).trans rfl; have hcz13_1 := cellS62_1 HGz13; have hfz13_0 := blk_frozen HGz13 0; have hfz13_1 := blk_frozen HGz13 1; have HO107 := Aside0.mk hoz13; have HX0 := Aside0.mk HGz13; have GE0 := Aside0.mk hgz13; have GW0 := GE0; have HF0 := Aside0.mk hfz13; clear HGz13 hgz13 hoz13 hfz13 HI0
    go_enter Try.func41, Try.ntmps41
    go_wp2_with (first | ((with_reducible refine gate_builtin (b := .append) (xs := #[.tmp 23, .tmp 26]) rfl ?_); at_builtin; refine Kd.R_append (Kd.int .u8) (w0 := w) w.heap.size rfl (.tmp 23) (.tmp 26) 36 5 (.int .u8 0) 1 rfl Try.underlying36 info5 rfl (by decide) (by omega) v106 s0_0 ((a1) % 256) [.int .u8 ((a1) % 256)] (fun _ => True) (fun _ => False) rfl (by first | (go_simp; done) | (go_simp; rfl)) ?aP (fun _ hk => hk.elim) ?aF ?aO ?aB ?aS ?aL ?_; (case aP => exact rfl); (case aB => exact (Ext.s1 GE0.out HB.out)); (case aF => exact (fun _ _ => trivial)); (case aO => exact (Ext.nR (Kd.R_mono (Kd.R_far (p := ⟨g, 1, none⟩) (Kd.R_types HO107.out HX0.out (by decide)) (fun _ hk => hk.2) (.bool true)) (fun _ hk => trivial)))); (case aS => exact (below_size (Ext.s1 GE0.out HB.out))); (case aL => have := LMc11.out; omega); intro v109 w14 ho hb hg hat; rw [← Ny108.out] at ho; replace HF0 := Ext.a (Ext.Fr.grown (Ext.fr HF0.out) (Ext.nR ((Kd.R_mono (Kd.R_far (p := ⟨g, 1, none⟩) (Kd.R_types HO107.out HX0.out (by decide)) (fun _ hk => hk.2) (.bool true)) (fun _ h_ => h_.1)))) hg); replace HX0 := Ext.a (blk_grown (g := g) (o := .cells #[v106, .bool true] 62 (0, 0)) (by refine blk_put (cs := #[v106, .bool false]) ?_ 1 _ rfl; exact HX0.out) hg (Kd.R_ne HO107.out HX0.out (by decide))); replace HB := Ext.a (hb); have HO110 := Ext.a (ho); clear HO107; clear ho hb hg hat; obtain ⟨Ao15, co15, eo15⟩ := Kd.R_slice HO110.out; subst eo15; have hcz16_0 : w14.cell? ⟨g, 0, none⟩ = some (v106) := (blk_cell HX0.out 0).trans rfl; have hcz16_1 : w14.cell? ⟨g, 1, none⟩ = some (.bool true) := (blk_cell HX0.out 1).trans rfl; have hfz16_0 := blk_frozen HX0.out 0; have hfz16_1 := blk_frozen HX0.out 1))
    first | go_end0 | ((try simp only [Exit.inBlock, Exit.then]); refine bodyPost_ret (results_none rfl _ _ _) rfl ?_)
    exact ⟨by first | rfl | (simp [errW_none, errW_some] <;> rfl) | (simp [*, errW_none, errW_some] <;> rfl), ⟨⟨_, (by refine blk_put (cs := #[v106, .bool true]) ?_ 0 _ rfl; exact HX0.out), GE0.out, (Ext.nR (Kd.R_mono (Kd.R_far (p := ⟨g, 0, none⟩) (Kd.R_types HO110.out HX0.out (by decide)) (fun _ hk => hk.2) (.slice Ao15 y108.length co15)) (fun _ hk => trivial)))⟩, Ext.fr HF0.out⟩, by exact Ext.s1 GE0.out HB.out⟩
   · rw [if_neg c11] at H; exact absurd H (by simp)
  ·
   rw [if_neg c10] at H; have c10b0 := decide_eq_false c10; clear c10
   by_cases c17 : s0_0.length < 140737488355328
   ·
    rw [if_pos c17] at H; have LMc17 := Aside0.mk c17; clear c17; obtain ⟨y113, hy113⟩ : ∃ y_ : List Int, y_ = (s0_0 ++ [(a1) % 256]) := ⟨_, rfl⟩
    replace H : (some (y113, decide (a1 > 255))) = some (r1, r2) := by first | (rw [hy113]; with_reducible exact H) | (have H2_ := (Option.bind_some _ _).symm.trans H; rw [hy113]; with_reducible exact H2_) | (have H2_ := (Option.bind_some _ _).symm.trans H; with_reducible exact H2_) | with_reducible exact H | (rw [hy113]; exact H) | exact H
    have Ny113 := Aside0.mk hy113; clear hy113; simp only [Option.some.injEq, Prod.mk.injEq] at H; obtain ⟨rfl, rfl⟩ := H; obtain ⟨⟨vbz18, HGz18, hgz18, hoz18⟩, hfz18⟩ := HI0.out; have hcz18_1 := cellS62_1 HGz18; have hfz18_1 := blk_frozen HGz18 1; clear HGz18 hgz18 hoz18 hfz18; obtain ⟨⟨v111, HGz19, hgz19, hoz19⟩, hfz19⟩ := HI0.out; have hcz19_0 := (blk_cell HGz19 0).trans rfl; have hcz19_1 := cellS62_1 HGz19; have hfz19_0 := blk_frozen HGz19 0; have hfz19_1 := blk_frozen HGz19 1; have HO112 := Aside0.mk hoz19; have HX0 := Aside0.mk HGz19; have GE0 := Aside0.mk hgz19; have GW0 := GE0; have HF0 := Aside0.mk hfz19; clear HGz19 hgz19 hoz19 hfz19 HI0
    go_enter Try.func41, Try.ntmps41
    go_wp2_with (first | ((with_reducible refine gate_builtin (b := .append) (xs := #[.tmp 23, .tmp 26]) rfl ?_); at_builtin; refine Kd.R_append (Kd.int .u8) (w0 := w) w.heap.size rfl (.tmp 23) (.tmp 26) 36 5 (.int .u8 0) 1 rfl Try.underlying36 info5 rfl (by decide) (by omega) v111 s0_0 ((a1) % 256) [.int .u8 ((a1) % 256)] (fun _ => True) (fun _ => False) rfl (by first | (go_simp; done) | (go_simp; rfl)) ?aP (fun _ hk => hk.elim) ?aF ?aO ?aB ?aS ?aL ?_; (case aP => exact rfl); (case aB => exact (Ext.s1 GE0.out HB.out)); (case aF => exact (fun _ _ => trivial)); (case aO => exact (Ext.nR (Kd.R_mono (Kd.R_far (p := ⟨g, 1, none⟩) (Kd.R_types HO112.out HX0.out (by decide)) (fun _ hk => hk.2) (.bool (decide (a1 > 255)))) (fun _ hk => trivial)))); (case aS => exact (below_size (Ext.s1 GE0.out HB.out))); (case aL => have := LMc17.out; omega); intro v114 w20 ho hb hg hat; rw [← Ny113.out] at ho; replace HF0 := Ext.a (Ext.Fr.grown (Ext.fr HF0.out) (Ext.nR ((Kd.R_mono (Kd.R_far (p := ⟨g, 1, none⟩) (Kd.R_types HO112.out HX0.out (by decide)) (fun _ hk => hk.2) (.bool (decide (a1 > 255)))) (fun _ h_ => h_.1)))) hg); replace HX0 := Ext.a (blk_grown (g := g) (o := .cells #[v111, .bool (decide (a1 > 255))] 62 (0, 0)) (by refine blk_put (cs := #[v111, .bool false]) ?_ 1 _ rfl; exact HX0.out) hg (Kd.R_ne HO112.out HX0.out (by decide))); replace HB := Ext.a (hb); have HO115 := Ext.a (ho); clear HO112; clear ho hb hg hat; obtain ⟨Ao21, co21, eo21⟩ := Kd.R_slice HO115.out; subst eo21; have hcz22_0 : w20.cell? ⟨g, 0, none⟩ = some (v111) := (blk_cell HX0.out 0).trans rfl; have hcz22_1 : w20.cell? ⟨g, 1, none⟩ = some (.bool (decide (a1 > 255))) := (blk_cell HX0.out 1).trans rfl; have hfz22_0 := blk_frozen HX0.out 0; have hfz22_1 := blk_frozen HX0.out 1))
    first | go_end0 | ((try simp only [Exit.inBlock, Exit.then]); refine bodyPost_ret (results_none rfl _ _ _) rfl ?_)
    exact ⟨by first | rfl | (simp [errW_none, errW_some] <;> rfl) | (simp [*, errW_none, errW_some] <;> rfl), ⟨⟨_, (by refine blk_put (cs := #[v111, .bool (decide (a1 > 255))]) ?_ 0 _ rfl; exact HX0.out), GE0.out, (Ext.nR (Kd.R_mono (Kd.R_far (p := ⟨g, 0, none⟩) (Kd.R_types HO115.out HX0.out (by decide)) (fun _ hk => hk.2) (.slice Ao21 y113.length co21)) (fun _ hk => trivial)))⟩, Ext.fr HF0.out⟩, by exact Ext.s1 GE0.out HB.out⟩
   · rw [if_neg c17] at H; exact absurd H (by simp)

end Go.Proofs.Ytlhjdmpclfhoeaa.PC
