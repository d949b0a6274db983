/- What octets.Put, octets.Get and the document's Put, Fits, Get, Twin, Same come to, as plain functions. -/
import Derived.Test.YtmaoppljldllfaaBase
import Derived.Test.YtmaoppljldllfaaPJx0
namespace Go.Proofs.Ytmaoppljldllfaa.Oct
open Go.RowKit Go.Proofs.YtmaoppljldllfaaW.PrintWords Go.Proofs.YtmaoppljldllfaaW.PrintMore Go.Proofs.Ytmaoppljldllfaa.PJ Go.Proofs.Ytmaoppljldllfaa.Base

/-- What Get answers. -/
def getE (l : List Int) (i size : Int) : Int × Int :=
  if size < 1 ∨ 8 < size then (0, 1) else if i < 0 ∨ (l.length : Int) < i ∨ (l.length : Int) - i < size then (0, 3) else (getB ((l.drop i.toNat).take size.toNat), 0)
theorem getA_step {a x : Int} {n d : Nat} (h0 : 0 ≤ a) (ha : a < 256 ^ n) (hx : 0 ≤ x ∧ x < 256) (hd : n + (d + 1) ≤ 8) : a * 256 < 18446744073709551616 ∧ 0 ≤ a * 256 + x ∧ a * 256 + x < 256 ^ (n + 1) := by
  have h1 := pow256_le (d := n + 1) (by omega)
  rw [Int.pow_succ] at h1 ⊢
  omega
end Go.Proofs.Ytmaoppljldllfaa.Oct
