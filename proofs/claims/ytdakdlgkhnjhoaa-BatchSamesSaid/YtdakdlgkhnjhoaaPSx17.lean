-- Written by wip/printx.py, a program of this work over the kit's print, for this claim.
import Derived.Test.YtdakdlgkhnjhoaaPSx0
namespace Go.Proofs.Ytdakdlgkhnjhoaa.PS
open Go.RowKit Go.Proofs.YtdakdlgkhnjhoaaW.PrintWords Go.Proofs.YtdakdlgkhnjhoaaW.PrintLast Go.Proofs.YtdakdlgkhnjhoaaW.PrintMore
attribute [local go_sem] max2_int min2_int max_two min_two max_three min_three max_four min_four   -- for this text's walks alone
attribute [local go_sem] Ext.pick_u8 Ext.pick_u32 Ext.pick_u64
set_option linter.unusedVariables false
set_option linter.unusedSimpArgs false

/-! ### what is known of a struct of type 36 that came in -/
def ok36 (x : S36) : Prop := Open.okSlice (fun y_ => (Lit.int .u8 y_).wf = true) 1 x.f0 ∧ Open.okSlice (fun y_ => (Lit.int .u8 y_).wf = true) 1 x.f1 ∧ (Lit.int .i64 x.f2).wf = true ∧ (Lit.int .i64 x.f3).wf = true ∧ (Lit.int .i64 x.f4).wf = true ∧ (Lit.int .i64 x.f5).wf = true
set_option maxRecDepth 100000 in
theorem opens36 : Open.Opens Try.prog 36 k36 ok36 := by
  intro H enc W base spare held fuel cs x h hw
  obtain ⟨xs, n, _, rfl, hl, hlen, hf⟩ := DataW.trod_struct Try.underlying36 h
  have hl' : cs.length = 6 := hl.trans (by kernel_rfl)
  obtain ⟨y0, K0, o0⟩ := Open.field_at (o := 0) (s := 1) (i := 0) Try.underlying36 rfl (Open.opens_slice Try.underlying26 (Open.opens_int Try.underlying5) (by kernel_rfl) (by kernel_rfl)) (by kernel_rfl) rfl hlen hf hw
  obtain ⟨y1, K1, o1⟩ := Open.field_at (o := 1) (s := 1) (i := 1) Try.underlying36 rfl (Open.opens_slice Try.underlying26 (Open.opens_int Try.underlying5) (by kernel_rfl) (by kernel_rfl)) (by kernel_rfl) rfl hlen hf hw
  obtain ⟨y2, K2, o2⟩ := Open.field_at (o := 2) (s := 1) (i := 2) Try.underlying36 rfl (Open.opens_int Try.underlying2) (by kernel_rfl) rfl hlen hf hw
  obtain ⟨y3, K3, o3⟩ := Open.field_at (o := 3) (s := 1) (i := 3) Try.underlying36 rfl (Open.opens_int Try.underlying2) (by kernel_rfl) rfl hlen hf hw
  obtain ⟨y4, K4, o4⟩ := Open.field_at (o := 4) (s := 1) (i := 4) Try.underlying36 rfl (Open.opens_int Try.underlying2) (by kernel_rfl) rfl hlen hf hw
  obtain ⟨y5, K5, o5⟩ := Open.field_at (o := 5) (s := 1) (i := 5) Try.underlying36 rfl (Open.opens_int Try.underlying2) (by kernel_rfl) rfl hlen hf hw
  have z : k36.K W (⟨y0, y1, y2, y3, y4, y5⟩ : S36) (cs.drop 0) := (Open.pair_piece (o := 0) (s := 1) (o' := 1) rfl K0 (Open.pair_piece (o := 1) (s := 1) (o' := 2) rfl K1 (Open.pair_piece (o := 2) (s := 1) (o' := 3) rfl K2 (Open.pair_piece (o := 3) (s := 1) (o' := 4) rfl K3 (Open.pair_piece (o := 4) (s := 1) (o' := 5) rfl K4 (Open.last_piece (o := 5) (s := 1) hl' K5))))))
  rw [List.drop_zero] at z
  exact ⟨_, z, o0, o1, o2, o3, o4, o5⟩

end Go.Proofs.Ytdakdlgkhnjhoaa.PS
