-- Written by wip/printx.py, a program of this work over the kit's print, for this claim.
import Derived.Test.YtandeendeoempaaPMx0
namespace Go.Proofs.Ytandeendeoempaa.PM
open Go.RowKit Go.Proofs.YtandeendeoempaaW.PrintWords Go.Proofs.YtandeendeoempaaW.PrintLast Go.Proofs.YtandeendeoempaaW.PrintMore
attribute [local go_sem] max2_int min2_int max_two min_two max_three min_three max_four min_four   -- for this text's walks alone
attribute [local go_sem] Ext.pick_u8 Ext.pick_u32 Ext.pick_u64
set_option linter.unusedVariables false
set_option linter.unusedSimpArgs false

/-! ### what is known of a struct of type 44 that came in -/
def ok44 (x : S44) : Prop := Open.okSlice (fun y_ => (Lit.int .u8 y_).wf = true) 1 x.f0 ∧ Open.okSlice (fun y_ => (Lit.int .u8 y_).wf = true) 1 x.f1 ∧ (Lit.int .i64 x.f2).wf = true ∧ (Lit.int .i64 x.f3).wf = true
set_option maxRecDepth 100000 in
theorem opens44 : Open.Opens Try.prog 44 k44 ok44 := by
  intro H enc W base spare held fuel cs x h hw
  obtain ⟨xs, n, _, rfl, hl, hlen, hf⟩ := DataW.trod_struct Try.underlying44 h; have hl' : cs.length = 4 := hl.trans (by kernel_rfl); obtain ⟨y0, K0, o0⟩ := Open.field_at (o := 0) (s := 1) (i := 0) Try.underlying44 rfl (Open.opens_slice Try.underlying25 (Open.opens_int Try.underlying5) (by kernel_rfl) (by kernel_rfl)) (by kernel_rfl) rfl hlen hf hw; obtain ⟨y1, K1, o1⟩ := Open.field_at (o := 1) (s := 1) (i := 1) Try.underlying44 rfl (Open.opens_slice Try.underlying25 (Open.opens_int Try.underlying5) (by kernel_rfl) (by kernel_rfl)) (by kernel_rfl) rfl hlen hf hw; obtain ⟨y2, K2, o2⟩ := Open.field_at (o := 2) (s := 1) (i := 2) Try.underlying44 rfl (Open.opens_int Try.underlying3) (by kernel_rfl) rfl hlen hf hw; obtain ⟨y3, K3, o3⟩ := Open.field_at (o := 3) (s := 1) (i := 3) Try.underlying44 rfl (Open.opens_int Try.underlying3) (by kernel_rfl) rfl hlen hf hw; have z : k44.K W (⟨y0, y1, y2, y3⟩ : S44) (cs.drop 0) := (Open.pair_piece (o := 0) (s := 1) (o' := 1) rfl K0 (Open.pair_piece (o := 1) (s := 1) (o' := 2) rfl K1 (Open.pair_piece (o := 2) (s := 1) (o' := 3) rfl K2 (Open.last_piece (o := 3) (s := 1) hl' K3)))); rw [List.drop_zero] at z
  exact ⟨_, z, o0, o1, o2, o3⟩

/-! ### what is known of a struct of type 60 that came in -/
def ok60 (x : S60) : Prop := Open.okSlice (fun y_ => (Lit.int .u8 y_).wf = true) 1 x.f0 ∧ (Lit.int .i64 x.f1).wf = true
set_option maxRecDepth 100000 in
theorem opens60 : Open.Opens Try.prog 60 k60 ok60 := by
  intro H enc W base spare held fuel cs x h hw
  obtain ⟨xs, n, _, rfl, hl, hlen, hf⟩ := DataW.trod_struct Try.underlying60 h; have hl' : cs.length = 2 := hl.trans (by kernel_rfl); obtain ⟨y0, K0, o0⟩ := Open.field_at (o := 0) (s := 1) (i := 0) Try.underlying60 rfl (Open.opens_slice Try.underlying25 (Open.opens_int Try.underlying5) (by kernel_rfl) (by kernel_rfl)) (by kernel_rfl) rfl hlen hf hw; obtain ⟨y1, K1, o1⟩ := Open.field_at (o := 1) (s := 1) (i := 1) Try.underlying60 rfl (Open.opens_int Try.underlying3) (by kernel_rfl) rfl hlen hf hw; have z : k60.K W (⟨y0, y1⟩ : S60) (cs.drop 0) := (Open.pair_piece (o := 0) (s := 1) (o' := 1) rfl K0 (Open.last_piece (o := 1) (s := 1) hl' K1)); rw [List.drop_zero] at z
  exact ⟨_, z, o0, o1⟩

/-! ### what is known of a struct of type 28 that came in -/
def ok28 (x : S28) : Prop := (Lit.int .i64 x.f0).wf = true ∧ (Lit.int .u64 x.f1).wf = true ∧ (Lit.int .i64 x.f2).wf = true ∧ Open.okSlice ok44 64 x.f3 ∧ Open.okSlice ok60 32 x.f4 ∧ Open.okSlice (fun y_ => (Lit.int .u8 y_).wf = true) 1 x.f5 ∧ Open.okSlice (fun y_ => (Lit.int .i64 y_).wf = true) 8 x.f6
set_option maxRecDepth 100000 in
theorem opens28 : Open.Opens Try.prog 28 k28 ok28 := by
  intro H enc W base spare held fuel cs x h hw
  obtain ⟨xs, n, _, rfl, hl, hlen, hf⟩ := DataW.trod_struct Try.underlying28 h; have hl' : cs.length = 7 := hl.trans (by kernel_rfl); obtain ⟨y0, K0, o0⟩ := Open.field_at (o := 0) (s := 1) (i := 0) Try.underlying28 rfl (Open.opens_int Try.underlying3) (by kernel_rfl) rfl hlen hf hw; obtain ⟨y1, K1, o1⟩ := Open.field_at (o := 1) (s := 1) (i := 1) Try.underlying28 rfl (Open.opens_int Try.underlying22) (by kernel_rfl) rfl hlen hf hw; obtain ⟨y2, K2, o2⟩ := Open.field_at (o := 2) (s := 1) (i := 2) Try.underlying28 rfl (Open.opens_int Try.underlying3) (by kernel_rfl) rfl hlen hf hw; obtain ⟨y3, K3, o3⟩ := Open.field_at (o := 3) (s := 1) (i := 3) Try.underlying28 rfl (Open.opens_slice Try.underlying23 opens44 (by kernel_rfl) (by kernel_rfl)) (by kernel_rfl) rfl hlen hf hw; obtain ⟨y4, K4, o4⟩ := Open.field_at (o := 4) (s := 1) (i := 4) Try.underlying28 rfl (Open.opens_slice Try.underlying24 opens60 (by kernel_rfl) (by kernel_rfl)) (by kernel_rfl) rfl hlen hf hw; obtain ⟨y5, K5, o5⟩ := Open.field_at (o := 5) (s := 1) (i := 5) Try.underlying28 rfl (Open.opens_slice Try.underlying25 (Open.opens_int Try.underlying5) (by kernel_rfl) (by kernel_rfl)) (by kernel_rfl) rfl hlen hf hw; obtain ⟨y6, K6, o6⟩ := Open.field_at (o := 6) (s := 1) (i := 6) Try.underlying28 rfl (Open.opens_slice Try.underlying26 (Open.opens_int Try.underlying3) (by kernel_rfl) (by kernel_rfl)) (by kernel_rfl) rfl hlen hf hw; have z : k28.K W (⟨y0, y1, y2, y3, y4, y5, y6⟩ : S28) (cs.drop 0) := (Open.pair_piece (o := 0) (s := 1) (o' := 1) rfl K0 (Open.pair_piece (o := 1) (s := 1) (o' := 2) rfl K1 (Open.pair_piece (o := 2) (s := 1) (o' := 3) rfl K2 (Open.pair_piece (o := 3) (s := 1) (o' := 4) rfl K3 (Open.pair_piece (o := 4) (s := 1) (o' := 5) rfl K4 (Open.pair_piece (o := 5) (s := 1) (o' := 6) rfl K5 (Open.last_piece (o := 6) (s := 1) hl' K6)))))))
  rw [List.drop_zero] at z
  exact ⟨_, z, o0, o1, o2, o3, o4, o5, o6⟩

end Go.Proofs.Ytandeendeoempaa.PM
