-- Written by wip/printx.py, a program of this work over the kit's print, for this claim.
import Derived.Test.YtleonalpeicjaaaPSx0
namespace Go.Proofs.Ytleonalpeicjaaa.PS
open Go.RowKit Go.Proofs.YtleonalpeicjaaaW.PrintWords Go.Proofs.YtleonalpeicjaaaW.PrintLast Go.Proofs.YtleonalpeicjaaaW.PrintMore
attribute [local go_sem] max2_int min2_int max_two min_two max_three min_three max_four min_four   -- for this text's walks alone
attribute [local go_sem] Ext.pick_u8 Ext.pick_u32 Ext.pick_u64
set_option linter.unusedVariables false
set_option linter.unusedSimpArgs false

/-! ### what is known of a struct of type 42 that came in -/
def ok42 (x : S42) : Prop := (Lit.int .i64 x.f0).wf = true ∧ (Lit.int .i64 x.f1).wf = true
set_option maxRecDepth 100000 in
theorem opens42 : Open.Opens Try.prog 42 k42 ok42 := by
  intro H enc W base spare held fuel cs x h hw
  obtain ⟨xs, n, _, rfl, hl, hlen, hf⟩ := DataW.trod_struct Try.underlying42 h
  have hl' : cs.length = 2 := hl.trans (by kernel_rfl)
  obtain ⟨y0, K0, o0⟩ := Open.field_at (o := 0) (s := 1) (i := 0) Try.underlying42 rfl (Open.opens_int Try.underlying3) (by kernel_rfl) rfl hlen hf hw
  obtain ⟨y1, K1, o1⟩ := Open.field_at (o := 1) (s := 1) (i := 1) Try.underlying42 rfl (Open.opens_int Try.underlying3) (by kernel_rfl) rfl hlen hf hw
  have z : k42.K W (⟨y0, y1⟩ : S42) (cs.drop 0) := (Open.pair_piece (o := 0) (s := 1) (o' := 1) rfl K0 (Open.last_piece (o := 1) (s := 1) hl' K1))
  rw [List.drop_zero] at z
  exact ⟨_, z, o0, o1⟩

end Go.Proofs.Ytleonalpeicjaaa.PS
