-- Written by wip/printx.py, a program of this work over the kit's print, for this claim.
import Derived.Test.YtdakdlgkhnjhoaaPSx0
import Derived.Test.YtdakdlgkhnjhoaaPSx17
namespace Go.Proofs.Ytdakdlgkhnjhoaa.PS
open Go.RowKit Go.Proofs.YtdakdlgkhnjhoaaW.PrintWords Go.Proofs.YtdakdlgkhnjhoaaW.PrintLast Go.Proofs.YtdakdlgkhnjhoaaW.PrintMore
attribute [local go_sem] max2_int min2_int max_two min_two max_three min_three max_four min_four   -- for this text's walks alone
attribute [local go_sem] Ext.pick_u8 Ext.pick_u32 Ext.pick_u64
set_option linter.unusedVariables false
set_option linter.unusedSimpArgs false

/-! ### what is known of a struct of type 38 that came in -/
def ok38 (x : S38) : Prop := (Lit.int .i64 x.f0).wf = true ∧ ok36 x.f1 ∧ True ∧ ok36 x.f3
set_option maxRecDepth 100000 in
theorem opens38 : Open.Opens Try.prog 38 k38 ok38 := by
  intro H enc W base spare held fuel cs x h hw
  obtain ⟨xs, n, _, rfl, hl, hlen, hf⟩ := DataW.trod_struct Try.underlying38 h
  have hl' : cs.length = 14 := hl.trans (by kernel_rfl)
  obtain ⟨y0, K0, o0⟩ := Open.field_at (o := 0) (s := 1) (i := 0) Try.underlying38 rfl (Open.opens_int Try.underlying3) (by kernel_rfl) rfl hlen hf hw
  obtain ⟨y1, K1, o1⟩ := Open.field_at (o := 1) (s := 6) (i := 1) Try.underlying38 rfl opens36 (by kernel_rfl) rfl hlen hf hw
  obtain ⟨y2, K2, o2⟩ := Open.field_at (o := 7) (s := 1) (i := 2) Try.underlying38 rfl (Open.opens_bool Try.underlying4) (by kernel_rfl) rfl hlen hf hw
  obtain ⟨y3, K3, o3⟩ := Open.field_at (o := 8) (s := 6) (i := 3) Try.underlying38 rfl opens36 (by kernel_rfl) rfl hlen hf hw
  have z : k38.K W (⟨y0, y1, y2, y3⟩ : S38) (cs.drop 0) := (Open.pair_piece (o := 0) (s := 1) (o' := 1) rfl K0 (Open.pair_piece (o := 1) (s := 6) (o' := 7) rfl K1 (Open.pair_piece (o := 7) (s := 1) (o' := 8) rfl K2 (Open.last_piece (o := 8) (s := 6) hl' K3))))
  rw [List.drop_zero] at z
  exact ⟨_, z, o0, o1, o2, o3⟩

end Go.Proofs.Ytdakdlgkhnjhoaa.PS
