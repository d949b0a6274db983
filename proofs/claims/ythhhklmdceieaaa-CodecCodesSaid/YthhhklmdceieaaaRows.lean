/-
  No cell of these rows narrows 'for every input' (looked for: loops, veiled, ifaces, maps, wideKeys, modest, calm, conditions, laid).
  DERIVED. THE GIVEN ROWS OF THIS SEAT. 4 by the template 'for every input the law returns true; each argument reads behind the call as it read before'; 0 by the template 'total and deterministic' (their statements: YthhhklmdceieaaaTotals.lean).
  GIVEN WITH THE SEED: the statements are not yours to turn. If you find one false, say at which input.
  Laid BY PROGRAM, IN A SANDBOX (cutbox-rows.mjs): the forced cells as the released guide's own fill.sh prints them over the translation c7c24f649900e555… (all of the seat's roots in one cut). By AI agents, Wed Nov 11 2026. No macro, syntax, notation, axiom, sorry.
-/
import Derived.Test.YthhhklmdceieaaaChecked
import GoSem.Claim
import GoSem.ClaimJoined
import GoSem.ClaimMapViews
import Derived.JoinedTies
import Derived.KernelRfl
namespace Go.Proofs.Ythhhklmdceieaaa
/- THE CELL 'sum', in the pinned program and in every row, IS THE sha256 OF THE DUMP (.gsa) THAT YthhhklmdceieaaaProg.lean LOADS. Nothing in Lean hashes anything: it is a label: what it is worth is what the hold of that sum in a sandbox is worth. -/
noncomputable def Try.pinned : Pinned := { name := "ythhhklmdceieaaa", sum := "c7c24f649900e555471257aa04231d441950c060b014fc01cb956e4c738c1af0", checked := Try.checked }
namespace Rows
def none {H : Type} : Left H := { results := [], args := [] }

/-- 'terrierlaw19.CodecCodes': WHATEVER THE INPUT: true; the input reads as it did. -/
def codecCodesSpec : ChangeSpec := { name := "codecCodes", fn := fun _ => fun
  | [d] => { results := [.lit (.bool true)], args := [d] }
  | _ => none }
def codecCodesRow : OpenClaim := { program := "ythhhklmdceieaaa", sum := "c7c24f649900e555471257aa04231d441950c060b014fc01cb956e4c738c1af0", func := "terrier/terrierlaw19.CodecCodes", spec := "codecCodes", apart := false }
def CodecCodesSaid : Prop := codecCodesRow.holds Try.pinned (OpenSpec.ofChange codecCodesSpec)

/-- ITS FALSE NEIGHBOUR: 'it returns false'. Refute it at one input. -/
def codecCodesWrong : ChangeSpec := { name := "codecCodes", fn := fun _ => fun
  | [d] => { results := [.lit (.bool false)], args := [d] }
  | _ => none }
def CodecCodesWrongFalsely : Prop := codecCodesRow.holds Try.pinned (OpenSpec.ofChange codecCodesWrong)

/-- 'terrierlaw19.CodecReads': WHATEVER THE INPUT: true; the input reads as it did. -/
def codecReadsSpec : ChangeSpec := { name := "codecReads", fn := fun _ => fun
  | [d] => { results := [.lit (.bool true)], args := [d] }
  | _ => none }
def codecReadsRow : OpenClaim := { program := "ythhhklmdceieaaa", sum := "c7c24f649900e555471257aa04231d441950c060b014fc01cb956e4c738c1af0", func := "terrier/terrierlaw19.CodecReads", spec := "codecReads", apart := false }
def CodecReadsSaid : Prop := codecReadsRow.holds Try.pinned (OpenSpec.ofChange codecReadsSpec)

/-- ITS FALSE NEIGHBOUR: 'it returns false'. Refute it at one input. -/
def codecReadsWrong : ChangeSpec := { name := "codecReads", fn := fun _ => fun
  | [d] => { results := [.lit (.bool false)], args := [d] }
  | _ => none }
def CodecReadsWrongFalsely : Prop := codecReadsRow.holds Try.pinned (OpenSpec.ofChange codecReadsWrong)

/-- 'terrierlaw19.CodecCuts': WHATEVER THE INPUT: true; the input reads as it did. -/
def codecCutsSpec : ChangeSpec := { name := "codecCuts", fn := fun _ => fun
  | [d1, d2, d3] => { results := [.lit (.bool true)], args := [d1, d2, d3] }
  | _ => none }
def codecCutsRow : OpenClaim := { program := "ythhhklmdceieaaa", sum := "c7c24f649900e555471257aa04231d441950c060b014fc01cb956e4c738c1af0", func := "terrier/terrierlaw19.CodecCuts", spec := "codecCuts", apart := false }
def CodecCutsSaid : Prop := codecCutsRow.holds Try.pinned (OpenSpec.ofChange codecCutsSpec)

/-- ITS FALSE NEIGHBOUR: 'it returns false'. Refute it at one input. -/
def codecCutsWrong : ChangeSpec := { name := "codecCuts", fn := fun _ => fun
  | [d1, d2, d3] => { results := [.lit (.bool false)], args := [d1, d2, d3] }
  | _ => none }
def CodecCutsWrongFalsely : Prop := codecCutsRow.holds Try.pinned (OpenSpec.ofChange codecCutsWrong)

/-- 'terrierlaw19.CodecBack': WHATEVER THE INPUT: true; the input reads as it did. -/
def codecBackSpec : ChangeSpec := { name := "codecBack", fn := fun _ => fun
  | [d1, d2, d3] => { results := [.lit (.bool true)], args := [d1, d2, d3] }
  | _ => none }
def codecBackRow : OpenClaim := { program := "ythhhklmdceieaaa", sum := "c7c24f649900e555471257aa04231d441950c060b014fc01cb956e4c738c1af0", func := "terrier/terrierlaw19.CodecBack", spec := "codecBack", apart := false }
def CodecBackSaid : Prop := codecBackRow.holds Try.pinned (OpenSpec.ofChange codecBackSpec)

/-- ITS FALSE NEIGHBOUR: 'it returns false'. Refute it at one input. -/
def codecBackWrong : ChangeSpec := { name := "codecBack", fn := fun _ => fun
  | [d1, d2, d3] => { results := [.lit (.bool false)], args := [d1, d2, d3] }
  | _ => none }
def CodecBackWrongFalsely : Prop := codecBackRow.holds Try.pinned (OpenSpec.ofChange codecBackWrong)

/- THE SECOND FORM. 'bulk': how many values and letters a reading holds, each counted each time it is reached (what is shared counts as often as it is met; a slice's spare places count too). A statement '..UptoSaid' is the law's where the arguments, and the package variables that the reading takes, are together of bulk at most 1048576: NARROWER than '..Said'. Prove '..Said' where nothing that the law and all that it calls make is longer than what came in: it says more and counts as full. Else prove '..UptoSaid'. A law counts once. -/
mutual
def uptoBulk {H : Type} : DataW H → Nat
  | .lit (.string bytes) => bytes.length + 1
  | .lit _ => 1
  | .nil => 1
  | .ptr d => uptoBulk d + 1
  | .slice elems spare => uptoBulkAll elems + uptoBulkAll spare + 1
  | .agg parts => uptoBulkAll parts + 1
  | .iface _ d => uptoBulk d + 1
  | .map entries => uptoBulkEntries entries + 1
  | .held _ => 1
def uptoBulkAll {H : Type} : List (DataW H) → Nat
  | [] => 0
  | d :: r => uptoBulk d + uptoBulkAll r
def uptoBulkEntries {H : Type} : List (Lit × DataW H) → Nat
  | [] => 0
  | x :: r => uptoBulkEntry x + uptoBulkEntries r
def uptoBulkEntry {H : Type} : Lit × DataW H → Nat
  | (.string bytes, d) => bytes.length + uptoBulk d + 1
  | (_, d) => uptoBulk d + 1
 end
def uptoSmall : (H : Type) → List (DataW H) → Bool := fun _ ds => decide (uptoBulkAll ds ≤ 1048576)
def OpenSpec.upto (s : _root_.Go.ChangeSpec) : _root_.Go.OpenSpec := { _root_.Go.OpenSpec.ofChange s with cond := some uptoSmall }

/-- 'terrierlaw19.CodecCodes', WHERE WHAT IT READS IS OF BULK AT MOST 1048576: true; the input reads as it did. -/
def codecCodesUptoRow : OpenClaim := { program := "ythhhklmdceieaaa", sum := "c7c24f649900e555471257aa04231d441950c060b014fc01cb956e4c738c1af0", func := "terrier/terrierlaw19.CodecCodes", spec := "codecCodes", apart := false, narrowed := true }
def CodecCodesUptoSaid : Prop := codecCodesUptoRow.holds Try.pinned (OpenSpec.upto codecCodesSpec)

/-- 'terrierlaw19.CodecReads', WHERE WHAT IT READS IS OF BULK AT MOST 1048576: true; the input reads as it did. -/
def codecReadsUptoRow : OpenClaim := { program := "ythhhklmdceieaaa", sum := "c7c24f649900e555471257aa04231d441950c060b014fc01cb956e4c738c1af0", func := "terrier/terrierlaw19.CodecReads", spec := "codecReads", apart := false, narrowed := true }
def CodecReadsUptoSaid : Prop := codecReadsUptoRow.holds Try.pinned (OpenSpec.upto codecReadsSpec)

/-- 'terrierlaw19.CodecCuts', WHERE WHAT IT READS IS OF BULK AT MOST 1048576: true; the input reads as it did. -/
def codecCutsUptoRow : OpenClaim := { program := "ythhhklmdceieaaa", sum := "c7c24f649900e555471257aa04231d441950c060b014fc01cb956e4c738c1af0", func := "terrier/terrierlaw19.CodecCuts", spec := "codecCuts", apart := false, narrowed := true }
def CodecCutsUptoSaid : Prop := codecCutsUptoRow.holds Try.pinned (OpenSpec.upto codecCutsSpec)

/-- 'terrierlaw19.CodecBack', WHERE WHAT IT READS IS OF BULK AT MOST 1048576: true; the input reads as it did. -/
def codecBackUptoRow : OpenClaim := { program := "ythhhklmdceieaaa", sum := "c7c24f649900e555471257aa04231d441950c060b014fc01cb956e4c738c1af0", func := "terrier/terrierlaw19.CodecBack", spec := "codecBack", apart := false, narrowed := true }
def CodecBackUptoSaid : Prop := codecBackUptoRow.holds Try.pinned (OpenSpec.upto codecBackSpec)

end Rows
end Go.Proofs.Ythhhklmdceieaaa
