/-
  No cell of these rows narrows 'for every input' (looked for: loops, veiled, ifaces, maps, wideKeys, modest, calm, conditions, laid).
  DERIVED. THE GIVEN ROWS OF THIS SEAT. 4 by the template 'for every input the law returns true; each argument reads behind the call as it read before'; 0 by the template 'total and deterministic' (their statements: YtdakdlgkhnjhoaaTotals.lean).
  GIVEN WITH THE SEED: the statements are not yours to turn. If you find one false, say at which input.
  Laid BY PROGRAM, IN A SANDBOX (cutbox-rows.mjs): the forced cells as the released guide's own fill.sh prints them over the translation 2d06294ae81b9206… (all of the seat's roots in one cut). By AI agents, Wed Nov 11 2026. No macro, syntax, notation, axiom, sorry.
-/
import Derived.Test.YtdakdlgkhnjhoaaChecked
import GoSem.Claim
import GoSem.ClaimJoined
import GoSem.ClaimMapViews
import Derived.JoinedTies
import Derived.KernelRfl
namespace Go.Proofs.Ytdakdlgkhnjhoaa
/- THE CELL 'sum', in the pinned program and in every row, IS THE sha256 OF THE DUMP (.gsa) THAT YtdakdlgkhnjhoaaProg.lean LOADS. Nothing in Lean hashes anything: it is a label: what it is worth is what the hold of that sum in a sandbox is worth. -/
noncomputable def Try.pinned : Pinned := { name := "ytdakdlgkhnjhoaa", sum := "2d06294ae81b92068d0311fc16e3537333a5d281b7dac0a8369d063737eeafb1", checked := Try.checked }
namespace Rows
def none {H : Type} : Left H := { results := [], args := [] }

/-- 'terrierlaw17.BatchSames': WHATEVER THE INPUT: true; the input reads as it did. -/
def batchSamesSpec : ChangeSpec := { name := "batchSames", fn := fun _ => fun
  | [d1, d2] => { results := [.lit (.bool true)], args := [d1, d2] }
  | _ => none }
def batchSamesRow : OpenClaim := { program := "ytdakdlgkhnjhoaa", sum := "2d06294ae81b92068d0311fc16e3537333a5d281b7dac0a8369d063737eeafb1", func := "terrier/terrierlaw17.BatchSames", spec := "batchSames", unfollowed := true, recurses := true, apart := false }
def BatchSamesSaid : Prop := batchSamesRow.holds Try.pinned (OpenSpec.ofChange batchSamesSpec)

/-- ITS FALSE NEIGHBOUR: 'it returns false'. Refute it at one input. -/
def batchSamesWrong : ChangeSpec := { name := "batchSames", fn := fun _ => fun
  | [d1, d2] => { results := [.lit (.bool false)], args := [d1, d2] }
  | _ => none }
def BatchSamesWrongFalsely : Prop := batchSamesRow.holds Try.pinned (OpenSpec.ofChange batchSamesWrong)

/-- 'terrierlaw17.BatchSieves': WHATEVER THE INPUT: true; the input reads as it did. -/
def batchSievesSpec : ChangeSpec := { name := "batchSieves", fn := fun _ => fun
  | [d1, d2] => { results := [.lit (.bool true)], args := [d1, d2] }
  | _ => none }
def batchSievesRow : OpenClaim := { program := "ytdakdlgkhnjhoaa", sum := "2d06294ae81b92068d0311fc16e3537333a5d281b7dac0a8369d063737eeafb1", func := "terrier/terrierlaw17.BatchSieves", spec := "batchSieves", inPlace := ["internal/bytealg.Compare"], unfollowed := true, recurses := true, apart := false }
def BatchSievesSaid : Prop := batchSievesRow.holds Try.pinned (OpenSpec.ofChange batchSievesSpec)

/-- ITS FALSE NEIGHBOUR: 'it returns false'. Refute it at one input. -/
def batchSievesWrong : ChangeSpec := { name := "batchSieves", fn := fun _ => fun
  | [d1, d2] => { results := [.lit (.bool false)], args := [d1, d2] }
  | _ => none }
def BatchSievesWrongFalsely : Prop := batchSievesRow.holds Try.pinned (OpenSpec.ofChange batchSievesWrong)

/-- 'terrierlaw17.BatchWhole': WHATEVER THE INPUT: true; the input reads as it did. -/
def batchWholeSpec : ChangeSpec := { name := "batchWhole", fn := fun _ => fun
  | [d1, d2] => { results := [.lit (.bool true)], args := [d1, d2] }
  | _ => none }
def batchWholeRow : OpenClaim := { program := "ytdakdlgkhnjhoaa", sum := "2d06294ae81b92068d0311fc16e3537333a5d281b7dac0a8369d063737eeafb1", func := "terrier/terrierlaw17.BatchWhole", spec := "batchWhole", unfollowed := true, recurses := true, apart := false }
def BatchWholeSaid : Prop := batchWholeRow.holds Try.pinned (OpenSpec.ofChange batchWholeSpec)

/-- ITS FALSE NEIGHBOUR: 'it returns false'. Refute it at one input. -/
def batchWholeWrong : ChangeSpec := { name := "batchWhole", fn := fun _ => fun
  | [d1, d2] => { results := [.lit (.bool false)], args := [d1, d2] }
  | _ => none }
def BatchWholeWrongFalsely : Prop := batchWholeRow.holds Try.pinned (OpenSpec.ofChange batchWholeWrong)

/-- 'terrierlaw17.BatchTwice': WHATEVER THE INPUT: true; the input reads as it did. -/
def batchTwiceSpec : ChangeSpec := { name := "batchTwice", fn := fun _ => fun
  | [d1, d2, d3] => { results := [.lit (.bool true)], args := [d1, d2, d3] }
  | _ => none }
def batchTwiceRow : OpenClaim := { program := "ytdakdlgkhnjhoaa", sum := "2d06294ae81b92068d0311fc16e3537333a5d281b7dac0a8369d063737eeafb1", func := "terrier/terrierlaw17.BatchTwice", spec := "batchTwice", inPlace := ["internal/bytealg.Compare"], unfollowed := true, recurses := true, apart := false }
def BatchTwiceSaid : Prop := batchTwiceRow.holds Try.pinned (OpenSpec.ofChange batchTwiceSpec)

/-- ITS FALSE NEIGHBOUR: 'it returns false'. Refute it at one input. -/
def batchTwiceWrong : ChangeSpec := { name := "batchTwice", fn := fun _ => fun
  | [d1, d2, d3] => { results := [.lit (.bool false)], args := [d1, d2, d3] }
  | _ => none }
def BatchTwiceWrongFalsely : Prop := batchTwiceRow.holds Try.pinned (OpenSpec.ofChange batchTwiceWrong)

/- THE SECOND FORM. 'bulk': how many values and letters a reading holds, each counted each time it is reached (what is shared counts as often as it is met; a slice's spare places count too). A statement '..UptoSaid' is the law's where the arguments, and the package variables that the reading takes, are together of bulk at most 1048576: NARROWER than '..Said'. Prove '..Said' where nothing that the law and all that it calls make is longer than what came in: it says more and counts as full. Else prove '..UptoSaid'. A law counts once. -/
mutual
def uptoBulk {H : Type} : DataW H → Nat
  | .lit (.string bytes) => bytes.length + 1
  | .lit _ => 1
  | .nil => 1
  | .ptr d => uptoBulk d + 1
  | .slice elems spare => uptoBulkAll elems + uptoBulkAll spare + 1
  | .agg parts => uptoBulkAll parts + 1
  | .iface _ d => uptoBulk d + 1
  | .map entries => uptoBulkEntries entries + 1
  | .held _ => 1
def uptoBulkAll {H : Type} : List (DataW H) → Nat
  | [] => 0
  | d :: r => uptoBulk d + uptoBulkAll r
def uptoBulkEntries {H : Type} : List (Lit × DataW H) → Nat
  | [] => 0
  | x :: r => uptoBulkEntry x + uptoBulkEntries r
def uptoBulkEntry {H : Type} : Lit × DataW H → Nat
  | (.string bytes, d) => bytes.length + uptoBulk d + 1
  | (_, d) => uptoBulk d + 1
 end
def uptoSmall : (H : Type) → List (DataW H) → Bool := fun _ ds => decide (uptoBulkAll ds ≤ 1048576)
def OpenSpec.upto (s : _root_.Go.ChangeSpec) : _root_.Go.OpenSpec := { _root_.Go.OpenSpec.ofChange s with cond := some uptoSmall }

/-- 'terrierlaw17.BatchSames', WHERE WHAT IT READS IS OF BULK AT MOST 1048576: true; the input reads as it did. -/
def batchSamesUptoRow : OpenClaim := { program := "ytdakdlgkhnjhoaa", sum := "2d06294ae81b92068d0311fc16e3537333a5d281b7dac0a8369d063737eeafb1", func := "terrier/terrierlaw17.BatchSames", spec := "batchSames", unfollowed := true, recurses := true, apart := false, narrowed := true }
def BatchSamesUptoSaid : Prop := batchSamesUptoRow.holds Try.pinned (OpenSpec.upto batchSamesSpec)

/-- 'terrierlaw17.BatchSieves', WHERE WHAT IT READS IS OF BULK AT MOST 1048576: true; the input reads as it did. -/
def batchSievesUptoRow : OpenClaim := { program := "ytdakdlgkhnjhoaa", sum := "2d06294ae81b92068d0311fc16e3537333a5d281b7dac0a8369d063737eeafb1", func := "terrier/terrierlaw17.BatchSieves", spec := "batchSieves", inPlace := ["internal/bytealg.Compare"], unfollowed := true, recurses := true, apart := false, narrowed := true }
def BatchSievesUptoSaid : Prop := batchSievesUptoRow.holds Try.pinned (OpenSpec.upto batchSievesSpec)

/-- 'terrierlaw17.BatchWhole', WHERE WHAT IT READS IS OF BULK AT MOST 1048576: true; the input reads as it did. -/
def batchWholeUptoRow : OpenClaim := { program := "ytdakdlgkhnjhoaa", sum := "2d06294ae81b92068d0311fc16e3537333a5d281b7dac0a8369d063737eeafb1", func := "terrier/terrierlaw17.BatchWhole", spec := "batchWhole", unfollowed := true, recurses := true, apart := false, narrowed := true }
def BatchWholeUptoSaid : Prop := batchWholeUptoRow.holds Try.pinned (OpenSpec.upto batchWholeSpec)

/-- 'terrierlaw17.BatchTwice', WHERE WHAT IT READS IS OF BULK AT MOST 1048576: true; the input reads as it did. -/
def batchTwiceUptoRow : OpenClaim := { program := "ytdakdlgkhnjhoaa", sum := "2d06294ae81b92068d0311fc16e3537333a5d281b7dac0a8369d063737eeafb1", func := "terrier/terrierlaw17.BatchTwice", spec := "batchTwice", inPlace := ["internal/bytealg.Compare"], unfollowed := true, recurses := true, apart := false, narrowed := true }
def BatchTwiceUptoSaid : Prop := batchTwiceUptoRow.holds Try.pinned (OpenSpec.upto batchTwiceSpec)

end Rows
end Go.Proofs.Ytdakdlgkhnjhoaa
