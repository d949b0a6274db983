/- What is below the base is no block of the call's own, by cases: short words for printed texts. -/
import Derived.Test.YtandeendeoempaaExt
namespace Go.Proofs.Ytandeendeoempaa.Ext
open Go.RowKit
theorem no4 {ob : Option Nat} {b k : Nat} (hb : ∀ k, ob = some k → b ≤ k) (h : k < b ∨ k < b ∨ k < b ∨ k < b) : some k ≠ ob := fun e => by have := hb k e.symm; omega
theorem ng4 {b k g : Nat} (hg : b ≤ g) (h : k < b ∨ k < b ∨ k < b ∨ k < b) : k ≠ g := by omega
end Go.Proofs.Ytandeendeoempaa.Ext
