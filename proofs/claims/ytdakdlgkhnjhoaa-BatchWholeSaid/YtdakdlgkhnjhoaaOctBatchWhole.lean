/- What octets.Put, octets.Get and the document's Put, Fits, Get, Twin, Same come to, as plain functions. -/
import Derived.Test.YtdakdlgkhnjhoaaBase
import Derived.Test.YtdakdlgkhnjhoaaPWx10
import Derived.Test.YtdakdlgkhnjhoaaPWx2
import Derived.Test.YtdakdlgkhnjhoaaPWx8
namespace Go.Proofs.Ytdakdlgkhnjhoaa.Oct
open Go.RowKit Go.Proofs.YtdakdlgkhnjhoaaW.PrintWords Go.Proofs.YtdakdlgkhnjhoaaW.PrintMore Go.Proofs.Ytdakdlgkhnjhoaa.PW Go.Proofs.Ytdakdlgkhnjhoaa.Base

theorem Same_eq {l m : List Int} (hl : Bytes l) (hm : Bytes m) : terrierref01_Same.f l m = some (decide (l = m)) := by
  unfold terrierref01_Same.f; rw [same_bytes hl hm]
theorem Same_self (l : List Int) : terrierref01_Same.f l l = some true := by
  unfold terrierref01_Same.f; rw [same_self]
theorem Equal_eq {l m : List Int} (hl : Bytes l) (hm : Bytes m) : bytes_Equal.f l m = some (decide (l = m)) := by
  unfold bytes_Equal.f; rw [same_bytes hl hm]
theorem Clone_eq {l : List Int} (h : l.length < 140737488355328) : bytes_Clone.f l = some l := by
  simp [bytes_Clone.f, h]
/-- What Get answers. -/
def getE (l : List Int) (i size : Int) : Int × Int :=
  if size < 1 ∨ 8 < size then (0, 1) else if i < 0 ∨ (l.length : Int) < i ∨ (l.length : Int) - i < size then (0, 3) else (getB ((l.drop i.toNat).take size.toNat), 0)
theorem getA_step {a x : Int} {n d : Nat} (h0 : 0 ≤ a) (ha : a < 256 ^ n) (hx : 0 ≤ x ∧ x < 256) (hd : n + (d + 1) ≤ 8) : a * 256 < 18446744073709551616 ∧ 0 ≤ a * 256 + x ∧ a * 256 + x < 256 ^ (n + 1) := by
  have h1 := pow256_le (d := n + 1) (by omega)
  rw [Int.pow_succ] at h1 ⊢
  omega
end Go.Proofs.Ytdakdlgkhnjhoaa.Oct
