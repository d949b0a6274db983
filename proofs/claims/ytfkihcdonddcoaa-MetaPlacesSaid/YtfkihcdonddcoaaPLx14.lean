-- Written by wip/printx.py, a program of this work over the kit's print, for this claim.
import Derived.Test.YtfkihcdonddcoaaPLx0
namespace Go.Proofs.Ytfkihcdonddcoaa.PL
open Go.RowKit Go.Proofs.YtfkihcdonddcoaaW.PrintWords Go.Proofs.YtfkihcdonddcoaaW.PrintLast Go.Proofs.YtfkihcdonddcoaaW.PrintMore
attribute [local go_sem] max2_int min2_int max_two min_two max_three min_three max_four min_four   -- for this text's walks alone
attribute [local go_sem] Ext.pick_u8 Ext.pick_u32 Ext.pick_u64
set_option linter.unusedVariables false
set_option linter.unusedSimpArgs false

/-! ### what is known of a struct of type 24 that came in -/
def ok24 (x : S24) : Prop := (Lit.int .u64 x.f0).wf = true ∧ (Lit.int .i64 x.f1).wf = true ∧ (Lit.int .i64 x.f2).wf = true ∧ (Lit.int .i64 x.f3).wf = true
set_option maxRecDepth 100000 in
theorem opens24 : Open.Opens Try.prog 24 k24 ok24 := by
  intro H enc W base spare held fuel cs x h hw
  obtain ⟨xs, n, _, rfl, hl, hlen, hf⟩ := DataW.trod_struct Try.underlying24 h
  have hl' : cs.length = 4 := hl.trans (by kernel_rfl)
  obtain ⟨y0, K0, o0⟩ := Open.field_at (o := 0) (s := 1) (i := 0) Try.underlying24 rfl (Open.opens_int Try.underlying22) (by kernel_rfl) rfl hlen hf hw
  obtain ⟨y1, K1, o1⟩ := Open.field_at (o := 1) (s := 1) (i := 1) Try.underlying24 rfl (Open.opens_int Try.underlying3) (by kernel_rfl) rfl hlen hf hw
  obtain ⟨y2, K2, o2⟩ := Open.field_at (o := 2) (s := 1) (i := 2) Try.underlying24 rfl (Open.opens_int Try.underlying3) (by kernel_rfl) rfl hlen hf hw
  obtain ⟨y3, K3, o3⟩ := Open.field_at (o := 3) (s := 1) (i := 3) Try.underlying24 rfl (Open.opens_int Try.underlying3) (by kernel_rfl) rfl hlen hf hw
  have z : k24.K W (⟨y0, y1, y2, y3⟩ : S24) (cs.drop 0) := (Open.pair_piece (o := 0) (s := 1) (o' := 1) rfl K0 (Open.pair_piece (o := 1) (s := 1) (o' := 2) rfl K1 (Open.pair_piece (o := 2) (s := 1) (o' := 3) rfl K2 (Open.last_piece (o := 3) (s := 1) hl' K3))))
  rw [List.drop_zero] at z
  exact ⟨_, z, o0, o1, o2, o3⟩

end Go.Proofs.Ytfkihcdonddcoaa.PL
