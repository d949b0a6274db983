-- Written by wip/printx.py, a program of this work over the kit's print, for this claim.
import Derived.Test.YtmaoppljldllfaaPSx0
namespace Go.Proofs.Ytmaoppljldllfaa.PS
open Go.RowKit Go.Proofs.YtmaoppljldllfaaW.PrintWords Go.Proofs.YtmaoppljldllfaaW.PrintLast Go.Proofs.YtmaoppljldllfaaW.PrintMore
attribute [local go_sem] max2_int min2_int max_two min_two max_three min_three max_four min_four   -- for this text's walks alone
attribute [local go_sem] Ext.pick_u8 Ext.pick_u32 Ext.pick_u64
set_option linter.unusedVariables false
set_option linter.unusedSimpArgs false

/-! ### sum_half: function 17 -/
def halfS (low x i c : Int) : Int := if (Go.bits .and .u32 (low / 2 ^ i.toNat) 1 == 1) = true then Go.bits .xor .u32 c x else c
def halfN (a : Int) (j : Int) : Int :=
  let low := Go.bits .and .u32 a 15
  if j = 0 then a / 16 else if j = 1 then halfS low 274646895 0 (a / 16) else if j = 2 then halfS low 549293790 1 (halfS low 274646895 0 (a / 16))
  else if j = 3 then halfS low 1098587580 2 (halfS low 549293790 1 (halfS low 274646895 0 (a / 16)))
  else halfS low 2197175160 3 (halfS low 1098587580 2 (halfS low 549293790 1 (halfS low 274646895 0 (a / 16))))
def sum_half.f (a0 : Int) : Option Int := some (halfN a0 4)
set_option maxHeartbeats 8000000 in
set_option maxRecDepth 100000 in
theorem sum_half.calls (a0 : Int) (r : Int) (w : World) (h : sum_half.f a0 = some r) :
    Calls Try.prog 17 #[.int .u32 a0] w fun e w' => e = .returned (.int .u32 r) ∧ Drawn0 w w' := by
  obtain rfl := Option.some.inj h
  clear h
  have ix : ∀ W : World, ∀ j : Int, (j = 0 ∨ j = 1 ∨ j = 2 ∨ j = 3) → (Instr.index 44 (.agg #[.int .u32 274646895, .int .u32 549293790, .int .u32 1098587580, .int .u32 2197175160]) (.int .i64 j)).run Try.prog W = .ok (.int .u32 (if j = 0 then 274646895 else if j = 1 then 549293790 else if j = 2 then 1098587580 else 2197175160)) W := by
    intro W j hj
    rcases hj with rfl | rfl | rfl | rfl <;> rfl
  have ix0 := fun W => ix W 0 (by omega)
  have ix1 := fun W => ix W 1 (by omega)
  have ix2 := fun W => ix W 2 (by omega)
  have ix3 := fun W => ix W 3 (by omega)
  clear ix
  simp only [Int.reduceEq, if_true, if_false] at ix0 ix1 ix2 ix3
  go_enter Try.func17, Try.ntmps17
  go_wp2
  go_loop [0, 11] (fun v0 v11 => ∃ j : Int, 0 ≤ j ∧ j ≤ 4 ∧ v0 = .int .u32 (halfN a0 j) ∧ v11 = .int .i64 j) (fun _ v11 => 4 - (intOf v11).toNat)
  case atStart => exact ⟨0, by omega, by omega, by simp [halfN], rfl⟩
  case round =>
    obtain ⟨j, hj0, hj, rfl, rfl⟩ := hrel
    have hc : j = 0 ∨ j = 1 ∨ j = 2 ∨ j = 3 ∨ j = 4 := by omega
    rcases hc with rfl | rfl | rfl | rfl | rfl
    · go_wp2
      all_goals first | (rename_i hcond; refine ⟨⟨1, by omega, by omega, ?_, rfl⟩, by simp [intOf]⟩; simp only [halfN, halfS] at *; simp_all; done) | trace_state
    · go_wp2
      all_goals first | (rename_i hcond; refine ⟨⟨2, by omega, by omega, ?_, rfl⟩, by simp [intOf]⟩; simp only [halfN, halfS] at *; simp_all; done) | trace_state
    · go_wp2
      all_goals first | (rename_i hcond; refine ⟨⟨3, by omega, by omega, ?_, rfl⟩, by simp [intOf]⟩; simp only [halfN, halfS] at *; simp_all; done) | trace_state
    · go_wp2
      all_goals first | (rename_i hcond; refine ⟨⟨4, by omega, by omega, ?_, rfl⟩, by simp [intOf]⟩; simp only [halfN, halfS] at *; simp_all; done) | trace_state
    · go_wp2
      go_ret
      exact ⟨rfl, Drawn0.refl _⟩

end Go.Proofs.Ytmaoppljldllfaa.PS
