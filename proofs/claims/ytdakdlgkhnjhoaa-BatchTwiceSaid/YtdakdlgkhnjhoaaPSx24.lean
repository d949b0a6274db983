-- Written by wip/printx.py, a program of this work over the kit's print, for this claim.
import Derived.Test.YtdakdlgkhnjhoaaPSx0
namespace Go.Proofs.Ytdakdlgkhnjhoaa.PS
open Go.RowKit Go.Proofs.YtdakdlgkhnjhoaaW.PrintWords Go.Proofs.YtdakdlgkhnjhoaaW.PrintLast Go.Proofs.YtdakdlgkhnjhoaaW.PrintMore
attribute [local go_sem] max2_int min2_int max_two min_two max_three min_three max_four min_four   -- for this text's walks alone
attribute [local go_sem] Ext.pick_u8 Ext.pick_u32 Ext.pick_u64
set_option linter.unusedVariables false
set_option linter.unusedSimpArgs false

/-! ### bytes_Compare: function 34 -/
def bytes_Compare.f (l0 : List Int) (l1 : List Int) : Option Int := some (Lib.compareBytes (strOfNums l0).data.toList (strOfNums l1).data.toList)
set_option maxHeartbeats 8000000 in
set_option maxRecDepth 100000 in
theorem bytes_Compare.calls (A0 : Option Addr) (c0 : Nat) (l0 : List Int) (A1 : Option Addr) (c1 : Nat) (l1 : List Int) (r : Int) (w : World) (hr0 : Kd.C (Kd.int .u8) w A0 l0.length l0) (hc0 : l0.length ≤ c0) (hr1 : Kd.C (Kd.int .u8) w A1 l1.length l1) (hc1 : l1.length ≤ c1) (h : bytes_Compare.f l0 l1 = some r) :
    Calls Try.prog 34 #[.slice A0 l0.length c0, .slice A1 l1.length c1] w fun e w' => e = .returned (.int .i64 r) ∧ Drawn0 w w' := by
  have hx := Ext.run_compare (P := Try.prog) (c := c0) (c' := c1) hr0 hr1
  obtain rfl := Option.some.inj h
  clear h hr0 hr1
  go_enter Try.func34, Try.ntmps34
  go_wp2
  rw [run_callFunc_extern Try.func37 (by kernel_rfl) (by kernel_rfl) (by kernel_rfl) (e := Extern.BytealgCompare.compare) (by kernel_rfl), hx]
  simp only [Result.andThen]
  rw [Oper.upon_value]
  go_wp2
  go_ret
  exact ⟨rfl, Drawn0.refl _⟩

end Go.Proofs.Ytdakdlgkhnjhoaa.PS
