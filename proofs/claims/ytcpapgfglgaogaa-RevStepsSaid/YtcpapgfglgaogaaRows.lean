/-
  No cell of these rows narrows 'for every input' (looked for: loops, veiled, ifaces, maps, wideKeys, modest, calm, conditions, laid).
  DERIVED. THE GIVEN ROWS OF THIS SEAT. 6 by the template 'for every input the law returns true; each argument reads behind the call as it read before'; 0 by the template 'total and deterministic' (their statements: YtcpapgfglgaogaaTotals.lean).
  GIVEN WITH THE SEED: the statements are not yours to turn. If you find one false, say at which input.
  Laid BY PROGRAM, IN A SANDBOX (cutbox-rows.mjs): the forced cells as the released guide's own fill.sh prints them over the translation d328b7954df735af… (all of the seat's roots in one cut). By AI agents, Wed Nov 11 2026. No macro, syntax, notation, axiom, sorry.
-/
import Derived.Test.YtcpapgfglgaogaaChecked
import GoSem.Claim
import GoSem.ClaimJoined
import GoSem.ClaimMapViews
import Derived.JoinedTies
import Derived.KernelRfl
namespace Go.Proofs.Ytcpapgfglgaogaa
/- THE CELL 'sum', in the pinned program and in every row, IS THE sha256 OF THE DUMP (.gsa) THAT YtcpapgfglgaogaaProg.lean LOADS. Nothing in Lean hashes anything: it is a label: what it is worth is what the hold of that sum in a sandbox is worth. -/
noncomputable def Try.pinned : Pinned := { name := "ytcpapgfglgaogaa", sum := "d328b7954df735af0704f5a75ce921ba5d630ef6fa54183df76d129a59c911c2", checked := Try.checked }
namespace Rows
def none {H : Type} : Left H := { results := [], args := [] }

/-- 'terrierlaw10.RevCodes': WHATEVER THE INPUT: true; the input reads as it did. -/
def revCodesSpec : ChangeSpec := { name := "revCodes", fn := fun _ => fun
  | [d1, d2] => { results := [.lit (.bool true)], args := [d1, d2] }
  | _ => none }
def revCodesRow : OpenClaim := { program := "ytcpapgfglgaogaa", sum := "d328b7954df735af0704f5a75ce921ba5d630ef6fa54183df76d129a59c911c2", func := "terrier/terrierlaw10.RevCodes", spec := "revCodes", apart := false }
def RevCodesSaid : Prop := revCodesRow.holds Try.pinned (OpenSpec.ofChange revCodesSpec)

/-- ITS FALSE NEIGHBOUR: 'it returns false'. Refute it at one input. -/
def revCodesWrong : ChangeSpec := { name := "revCodes", fn := fun _ => fun
  | [d1, d2] => { results := [.lit (.bool false)], args := [d1, d2] }
  | _ => none }
def RevCodesWrongFalsely : Prop := revCodesRow.holds Try.pinned (OpenSpec.ofChange revCodesWrong)

/-- 'terrierlaw10.RevLows': WHATEVER THE INPUT: true; the input reads as it did. -/
def revLowsSpec : ChangeSpec := { name := "revLows", fn := fun _ => fun
  | [d1, d2, d3] => { results := [.lit (.bool true)], args := [d1, d2, d3] }
  | _ => none }
def revLowsRow : OpenClaim := { program := "ytcpapgfglgaogaa", sum := "d328b7954df735af0704f5a75ce921ba5d630ef6fa54183df76d129a59c911c2", func := "terrier/terrierlaw10.RevLows", spec := "revLows", inPlace := ["internal/bytealg.Compare"], apart := false }
def RevLowsSaid : Prop := revLowsRow.holds Try.pinned (OpenSpec.ofChange revLowsSpec)

/-- ITS FALSE NEIGHBOUR: 'it returns false'. Refute it at one input. -/
def revLowsWrong : ChangeSpec := { name := "revLows", fn := fun _ => fun
  | [d1, d2, d3] => { results := [.lit (.bool false)], args := [d1, d2, d3] }
  | _ => none }
def RevLowsWrongFalsely : Prop := revLowsRow.holds Try.pinned (OpenSpec.ofChange revLowsWrong)

/-- 'terrierlaw10.RevSteps': WHATEVER THE INPUT: true; the input reads as it did. -/
def revStepsSpec : ChangeSpec := { name := "revSteps", fn := fun _ => fun
  | [d1, d2] => { results := [.lit (.bool true)], args := [d1, d2] }
  | _ => none }
def revStepsRow : OpenClaim := { program := "ytcpapgfglgaogaa", sum := "d328b7954df735af0704f5a75ce921ba5d630ef6fa54183df76d129a59c911c2", func := "terrier/terrierlaw10.RevSteps", spec := "revSteps", inPlace := ["internal/bytealg.Compare"], apart := false }
def RevStepsSaid : Prop := revStepsRow.holds Try.pinned (OpenSpec.ofChange revStepsSpec)

/-- ITS FALSE NEIGHBOUR: 'it returns false'. Refute it at one input. -/
def revStepsWrong : ChangeSpec := { name := "revSteps", fn := fun _ => fun
  | [d1, d2] => { results := [.lit (.bool false)], args := [d1, d2] }
  | _ => none }
def RevStepsWrongFalsely : Prop := revStepsRow.holds Try.pinned (OpenSpec.ofChange revStepsWrong)

/-- 'terrierlaw10.RevReads': WHATEVER THE INPUT: true; the input reads as it did. -/
def revReadsSpec : ChangeSpec := { name := "revReads", fn := fun _ => fun
  | [d] => { results := [.lit (.bool true)], args := [d] }
  | _ => none }
def revReadsRow : OpenClaim := { program := "ytcpapgfglgaogaa", sum := "d328b7954df735af0704f5a75ce921ba5d630ef6fa54183df76d129a59c911c2", func := "terrier/terrierlaw10.RevReads", spec := "revReads", apart := false }
def RevReadsSaid : Prop := revReadsRow.holds Try.pinned (OpenSpec.ofChange revReadsSpec)

/-- ITS FALSE NEIGHBOUR: 'it returns false'. Refute it at one input. -/
def revReadsWrong : ChangeSpec := { name := "revReads", fn := fun _ => fun
  | [d] => { results := [.lit (.bool false)], args := [d] }
  | _ => none }
def RevReadsWrongFalsely : Prop := revReadsRow.holds Try.pinned (OpenSpec.ofChange revReadsWrong)

/-- 'terrierlaw10.RevBack': WHATEVER THE INPUT: true; the input reads as it did. -/
def revBackSpec : ChangeSpec := { name := "revBack", fn := fun _ => fun
  | [d1, d2] => { results := [.lit (.bool true)], args := [d1, d2] }
  | _ => none }
def revBackRow : OpenClaim := { program := "ytcpapgfglgaogaa", sum := "d328b7954df735af0704f5a75ce921ba5d630ef6fa54183df76d129a59c911c2", func := "terrier/terrierlaw10.RevBack", spec := "revBack", apart := false }
def RevBackSaid : Prop := revBackRow.holds Try.pinned (OpenSpec.ofChange revBackSpec)

/-- ITS FALSE NEIGHBOUR: 'it returns false'. Refute it at one input. -/
def revBackWrong : ChangeSpec := { name := "revBack", fn := fun _ => fun
  | [d1, d2] => { results := [.lit (.bool false)], args := [d1, d2] }
  | _ => none }
def RevBackWrongFalsely : Prop := revBackRow.holds Try.pinned (OpenSpec.ofChange revBackWrong)

/-- 'terrierlaw10.RevOrders': WHATEVER THE INPUT: true; the input reads as it did. -/
def revOrdersSpec : ChangeSpec := { name := "revOrders", fn := fun _ => fun
  | [d1, d2, d3, d4] => { results := [.lit (.bool true)], args := [d1, d2, d3, d4] }
  | _ => none }
def revOrdersRow : OpenClaim := { program := "ytcpapgfglgaogaa", sum := "d328b7954df735af0704f5a75ce921ba5d630ef6fa54183df76d129a59c911c2", func := "terrier/terrierlaw10.RevOrders", spec := "revOrders", inPlace := ["internal/bytealg.Compare"], apart := false }
def RevOrdersSaid : Prop := revOrdersRow.holds Try.pinned (OpenSpec.ofChange revOrdersSpec)

/-- ITS FALSE NEIGHBOUR: 'it returns false'. Refute it at one input. -/
def revOrdersWrong : ChangeSpec := { name := "revOrders", fn := fun _ => fun
  | [d1, d2, d3, d4] => { results := [.lit (.bool false)], args := [d1, d2, d3, d4] }
  | _ => none }
def RevOrdersWrongFalsely : Prop := revOrdersRow.holds Try.pinned (OpenSpec.ofChange revOrdersWrong)

/- THE SECOND FORM. 'bulk': how many values and letters a reading holds, each counted each time it is reached (what is shared counts as often as it is met; a slice's spare places count too). A statement '..UptoSaid' is the law's where the arguments, and the package variables that the reading takes, are together of bulk at most 1048576: NARROWER than '..Said'. Prove '..Said' where nothing that the law and all that it calls make is longer than what came in: it says more and counts as full. Else prove '..UptoSaid'. A law counts once. -/
mutual
def uptoBulk {H : Type} : DataW H → Nat
  | .lit (.string bytes) => bytes.length + 1
  | .lit _ => 1
  | .nil => 1
  | .ptr d => uptoBulk d + 1
  | .slice elems spare => uptoBulkAll elems + uptoBulkAll spare + 1
  | .agg parts => uptoBulkAll parts + 1
  | .iface _ d => uptoBulk d + 1
  | .map entries => uptoBulkEntries entries + 1
  | .held _ => 1
def uptoBulkAll {H : Type} : List (DataW H) → Nat
  | [] => 0
  | d :: r => uptoBulk d + uptoBulkAll r
def uptoBulkEntries {H : Type} : List (Lit × DataW H) → Nat
  | [] => 0
  | x :: r => uptoBulkEntry x + uptoBulkEntries r
def uptoBulkEntry {H : Type} : Lit × DataW H → Nat
  | (.string bytes, d) => bytes.length + uptoBulk d + 1
  | (_, d) => uptoBulk d + 1
 end
def uptoSmall : (H : Type) → List (DataW H) → Bool := fun _ ds => decide (uptoBulkAll ds ≤ 1048576)
def OpenSpec.upto (s : _root_.Go.ChangeSpec) : _root_.Go.OpenSpec := { _root_.Go.OpenSpec.ofChange s with cond := some uptoSmall }

/-- 'terrierlaw10.RevCodes', WHERE WHAT IT READS IS OF BULK AT MOST 1048576: true; the input reads as it did. -/
def revCodesUptoRow : OpenClaim := { program := "ytcpapgfglgaogaa", sum := "d328b7954df735af0704f5a75ce921ba5d630ef6fa54183df76d129a59c911c2", func := "terrier/terrierlaw10.RevCodes", spec := "revCodes", apart := false, narrowed := true }
def RevCodesUptoSaid : Prop := revCodesUptoRow.holds Try.pinned (OpenSpec.upto revCodesSpec)

/-- 'terrierlaw10.RevLows', WHERE WHAT IT READS IS OF BULK AT MOST 1048576: true; the input reads as it did. -/
def revLowsUptoRow : OpenClaim := { program := "ytcpapgfglgaogaa", sum := "d328b7954df735af0704f5a75ce921ba5d630ef6fa54183df76d129a59c911c2", func := "terrier/terrierlaw10.RevLows", spec := "revLows", inPlace := ["internal/bytealg.Compare"], apart := false, narrowed := true }
def RevLowsUptoSaid : Prop := revLowsUptoRow.holds Try.pinned (OpenSpec.upto revLowsSpec)

/-- 'terrierlaw10.RevSteps', WHERE WHAT IT READS IS OF BULK AT MOST 1048576: true; the input reads as it did. -/
def revStepsUptoRow : OpenClaim := { program := "ytcpapgfglgaogaa", sum := "d328b7954df735af0704f5a75ce921ba5d630ef6fa54183df76d129a59c911c2", func := "terrier/terrierlaw10.RevSteps", spec := "revSteps", inPlace := ["internal/bytealg.Compare"], apart := false, narrowed := true }
def RevStepsUptoSaid : Prop := revStepsUptoRow.holds Try.pinned (OpenSpec.upto revStepsSpec)

/-- 'terrierlaw10.RevReads', WHERE WHAT IT READS IS OF BULK AT MOST 1048576: true; the input reads as it did. -/
def revReadsUptoRow : OpenClaim := { program := "ytcpapgfglgaogaa", sum := "d328b7954df735af0704f5a75ce921ba5d630ef6fa54183df76d129a59c911c2", func := "terrier/terrierlaw10.RevReads", spec := "revReads", apart := false, narrowed := true }
def RevReadsUptoSaid : Prop := revReadsUptoRow.holds Try.pinned (OpenSpec.upto revReadsSpec)

/-- 'terrierlaw10.RevBack', WHERE WHAT IT READS IS OF BULK AT MOST 1048576: true; the input reads as it did. -/
def revBackUptoRow : OpenClaim := { program := "ytcpapgfglgaogaa", sum := "d328b7954df735af0704f5a75ce921ba5d630ef6fa54183df76d129a59c911c2", func := "terrier/terrierlaw10.RevBack", spec := "revBack", apart := false, narrowed := true }
def RevBackUptoSaid : Prop := revBackUptoRow.holds Try.pinned (OpenSpec.upto revBackSpec)

/-- 'terrierlaw10.RevOrders', WHERE WHAT IT READS IS OF BULK AT MOST 1048576: true; the input reads as it did. -/
def revOrdersUptoRow : OpenClaim := { program := "ytcpapgfglgaogaa", sum := "d328b7954df735af0704f5a75ce921ba5d630ef6fa54183df76d129a59c911c2", func := "terrier/terrierlaw10.RevOrders", spec := "revOrders", inPlace := ["internal/bytealg.Compare"], apart := false, narrowed := true }
def RevOrdersUptoSaid : Prop := revOrdersUptoRow.holds Try.pinned (OpenSpec.upto revOrdersSpec)

end Rows
end Go.Proofs.Ytcpapgfglgaogaa
