/-
  No cell of these rows narrows 'for every input' (looked for: loops, veiled, ifaces, maps, wideKeys, modest, calm, conditions, laid).
  DERIVED. THE GIVEN ROWS OF THIS SEAT. 5 by the template 'for every input the law returns true; each argument reads behind the call as it read before'; 0 by the template 'total and deterministic' (their statements: YtlhjdmpclfhoeaaTotals.lean).
  GIVEN WITH THE SEED: the statements are not yours to turn. If you find one false, say at which input.
  Laid BY PROGRAM, IN A SANDBOX (cutbox-rows.mjs): the forced cells as the released guide's own fill.sh prints them over the translation 7ea4650352d7877a… (all of the seat's roots in one cut). By AI agents, Wed Nov 11 2026. No macro, syntax, notation, axiom, sorry.
-/
import Derived.Test.YtlhjdmpclfhoeaaChecked
import GoSem.Claim
import GoSem.ClaimJoined
import GoSem.ClaimMapViews
import Derived.JoinedTies
import Derived.KernelRfl
namespace Go.Proofs.Ytlhjdmpclfhoeaa
/- THE CELL 'sum', in the pinned program and in every row, IS THE sha256 OF THE DUMP (.gsa) THAT YtlhjdmpclfhoeaaProg.lean LOADS. Nothing in Lean hashes anything: it is a label: what it is worth is what the hold of that sum in a sandbox is worth. -/
noncomputable def Try.pinned : Pinned := { name := "ytlhjdmpclfhoeaa", sum := "7ea4650352d7877ac235afc75f19b86801d5c3612e75c6287185bd393c0031fb", checked := Try.checked }
namespace Rows
def none {H : Type} : Left H := { results := [], args := [] }

/-- 'terrierlaw20.ReplyCodes': WHATEVER THE INPUT: true; the input reads as it did. -/
def replyCodesSpec : ChangeSpec := { name := "replyCodes", fn := fun _ => fun
  | [d] => { results := [.lit (.bool true)], args := [d] }
  | _ => none }
def replyCodesRow : OpenClaim := { program := "ytlhjdmpclfhoeaa", sum := "7ea4650352d7877ac235afc75f19b86801d5c3612e75c6287185bd393c0031fb", func := "terrier/terrierlaw20.ReplyCodes", spec := "replyCodes", apart := false }
def ReplyCodesSaid : Prop := replyCodesRow.holds Try.pinned (OpenSpec.ofChange replyCodesSpec)

/-- ITS FALSE NEIGHBOUR: 'it returns false'. Refute it at one input. -/
def replyCodesWrong : ChangeSpec := { name := "replyCodes", fn := fun _ => fun
  | [d] => { results := [.lit (.bool false)], args := [d] }
  | _ => none }
def ReplyCodesWrongFalsely : Prop := replyCodesRow.holds Try.pinned (OpenSpec.ofChange replyCodesWrong)

/-- 'terrierlaw20.ReplyBatches': WHATEVER THE INPUT: true; the input reads as it did. -/
def replyBatchesSpec : ChangeSpec := { name := "replyBatches", fn := fun _ => fun
  | [d] => { results := [.lit (.bool true)], args := [d] }
  | _ => none }
def replyBatchesRow : OpenClaim := { program := "ytlhjdmpclfhoeaa", sum := "7ea4650352d7877ac235afc75f19b86801d5c3612e75c6287185bd393c0031fb", func := "terrier/terrierlaw20.ReplyBatches", spec := "replyBatches", apart := false }
def ReplyBatchesSaid : Prop := replyBatchesRow.holds Try.pinned (OpenSpec.ofChange replyBatchesSpec)

/-- ITS FALSE NEIGHBOUR: 'it returns false'. Refute it at one input. -/
def replyBatchesWrong : ChangeSpec := { name := "replyBatches", fn := fun _ => fun
  | [d] => { results := [.lit (.bool false)], args := [d] }
  | _ => none }
def ReplyBatchesWrongFalsely : Prop := replyBatchesRow.holds Try.pinned (OpenSpec.ofChange replyBatchesWrong)

/-- 'terrierlaw20.ReplyCuts': WHATEVER THE INPUT: true; the input reads as it did. -/
def replyCutsSpec : ChangeSpec := { name := "replyCuts", fn := fun _ => fun
  | [d1, d2, d3] => { results := [.lit (.bool true)], args := [d1, d2, d3] }
  | _ => none }
def replyCutsRow : OpenClaim := { program := "ytlhjdmpclfhoeaa", sum := "7ea4650352d7877ac235afc75f19b86801d5c3612e75c6287185bd393c0031fb", func := "terrier/terrierlaw20.ReplyCuts", spec := "replyCuts", apart := false }
def ReplyCutsSaid : Prop := replyCutsRow.holds Try.pinned (OpenSpec.ofChange replyCutsSpec)

/-- ITS FALSE NEIGHBOUR: 'it returns false'. Refute it at one input. -/
def replyCutsWrong : ChangeSpec := { name := "replyCuts", fn := fun _ => fun
  | [d1, d2, d3] => { results := [.lit (.bool false)], args := [d1, d2, d3] }
  | _ => none }
def ReplyCutsWrongFalsely : Prop := replyCutsRow.holds Try.pinned (OpenSpec.ofChange replyCutsWrong)

/-- 'terrierlaw20.ReplyBack': WHATEVER THE INPUT: true; the input reads as it did. -/
def replyBackSpec : ChangeSpec := { name := "replyBack", fn := fun _ => fun
  | [d1, d2, d3, d4] => { results := [.lit (.bool true)], args := [d1, d2, d3, d4] }
  | _ => none }
def replyBackRow : OpenClaim := { program := "ytlhjdmpclfhoeaa", sum := "7ea4650352d7877ac235afc75f19b86801d5c3612e75c6287185bd393c0031fb", func := "terrier/terrierlaw20.ReplyBack", spec := "replyBack", apart := false }
def ReplyBackSaid : Prop := replyBackRow.holds Try.pinned (OpenSpec.ofChange replyBackSpec)

/-- ITS FALSE NEIGHBOUR: 'it returns false'. Refute it at one input. -/
def replyBackWrong : ChangeSpec := { name := "replyBack", fn := fun _ => fun
  | [d1, d2, d3, d4] => { results := [.lit (.bool false)], args := [d1, d2, d3, d4] }
  | _ => none }
def ReplyBackWrongFalsely : Prop := replyBackRow.holds Try.pinned (OpenSpec.ofChange replyBackWrong)

/-- 'terrierlaw20.ReplyReads': WHATEVER THE INPUT: true; the input reads as it did. -/
def replyReadsSpec : ChangeSpec := { name := "replyReads", fn := fun _ => fun
  | [d] => { results := [.lit (.bool true)], args := [d] }
  | _ => none }
def replyReadsRow : OpenClaim := { program := "ytlhjdmpclfhoeaa", sum := "7ea4650352d7877ac235afc75f19b86801d5c3612e75c6287185bd393c0031fb", func := "terrier/terrierlaw20.ReplyReads", spec := "replyReads", apart := false }
def ReplyReadsSaid : Prop := replyReadsRow.holds Try.pinned (OpenSpec.ofChange replyReadsSpec)

/-- ITS FALSE NEIGHBOUR: 'it returns false'. Refute it at one input. -/
def replyReadsWrong : ChangeSpec := { name := "replyReads", fn := fun _ => fun
  | [d] => { results := [.lit (.bool false)], args := [d] }
  | _ => none }
def ReplyReadsWrongFalsely : Prop := replyReadsRow.holds Try.pinned (OpenSpec.ofChange replyReadsWrong)

/- THE SECOND FORM. 'bulk': how many values and letters a reading holds, each counted each time it is reached (what is shared counts as often as it is met; a slice's spare places count too). A statement '..UptoSaid' is the law's where the arguments, and the package variables that the reading takes, are together of bulk at most 1048576: NARROWER than '..Said'. Prove '..Said' where nothing that the law and all that it calls make is longer than what came in: it says more and counts as full. Else prove '..UptoSaid'. A law counts once. -/
mutual
def uptoBulk {H : Type} : DataW H → Nat
  | .lit (.string bytes) => bytes.length + 1
  | .lit _ => 1
  | .nil => 1
  | .ptr d => uptoBulk d + 1
  | .slice elems spare => uptoBulkAll elems + uptoBulkAll spare + 1
  | .agg parts => uptoBulkAll parts + 1
  | .iface _ d => uptoBulk d + 1
  | .map entries => uptoBulkEntries entries + 1
  | .held _ => 1
def uptoBulkAll {H : Type} : List (DataW H) → Nat
  | [] => 0
  | d :: r => uptoBulk d + uptoBulkAll r
def uptoBulkEntries {H : Type} : List (Lit × DataW H) → Nat
  | [] => 0
  | x :: r => uptoBulkEntry x + uptoBulkEntries r
def uptoBulkEntry {H : Type} : Lit × DataW H → Nat
  | (.string bytes, d) => bytes.length + uptoBulk d + 1
  | (_, d) => uptoBulk d + 1
 end
def uptoSmall : (H : Type) → List (DataW H) → Bool := fun _ ds => decide (uptoBulkAll ds ≤ 1048576)
def OpenSpec.upto (s : _root_.Go.ChangeSpec) : _root_.Go.OpenSpec := { _root_.Go.OpenSpec.ofChange s with cond := some uptoSmall }

/-- 'terrierlaw20.ReplyCodes', WHERE WHAT IT READS IS OF BULK AT MOST 1048576: true; the input reads as it did. -/
def replyCodesUptoRow : OpenClaim := { program := "ytlhjdmpclfhoeaa", sum := "7ea4650352d7877ac235afc75f19b86801d5c3612e75c6287185bd393c0031fb", func := "terrier/terrierlaw20.ReplyCodes", spec := "replyCodes", apart := false, narrowed := true }
def ReplyCodesUptoSaid : Prop := replyCodesUptoRow.holds Try.pinned (OpenSpec.upto replyCodesSpec)

/-- 'terrierlaw20.ReplyBatches', WHERE WHAT IT READS IS OF BULK AT MOST 1048576: true; the input reads as it did. -/
def replyBatchesUptoRow : OpenClaim := { program := "ytlhjdmpclfhoeaa", sum := "7ea4650352d7877ac235afc75f19b86801d5c3612e75c6287185bd393c0031fb", func := "terrier/terrierlaw20.ReplyBatches", spec := "replyBatches", apart := false, narrowed := true }
def ReplyBatchesUptoSaid : Prop := replyBatchesUptoRow.holds Try.pinned (OpenSpec.upto replyBatchesSpec)

/-- 'terrierlaw20.ReplyCuts', WHERE WHAT IT READS IS OF BULK AT MOST 1048576: true; the input reads as it did. -/
def replyCutsUptoRow : OpenClaim := { program := "ytlhjdmpclfhoeaa", sum := "7ea4650352d7877ac235afc75f19b86801d5c3612e75c6287185bd393c0031fb", func := "terrier/terrierlaw20.ReplyCuts", spec := "replyCuts", apart := false, narrowed := true }
def ReplyCutsUptoSaid : Prop := replyCutsUptoRow.holds Try.pinned (OpenSpec.upto replyCutsSpec)

/-- 'terrierlaw20.ReplyBack', WHERE WHAT IT READS IS OF BULK AT MOST 1048576: true; the input reads as it did. -/
def replyBackUptoRow : OpenClaim := { program := "ytlhjdmpclfhoeaa", sum := "7ea4650352d7877ac235afc75f19b86801d5c3612e75c6287185bd393c0031fb", func := "terrier/terrierlaw20.ReplyBack", spec := "replyBack", apart := false, narrowed := true }
def ReplyBackUptoSaid : Prop := replyBackUptoRow.holds Try.pinned (OpenSpec.upto replyBackSpec)

/-- 'terrierlaw20.ReplyReads', WHERE WHAT IT READS IS OF BULK AT MOST 1048576: true; the input reads as it did. -/
def replyReadsUptoRow : OpenClaim := { program := "ytlhjdmpclfhoeaa", sum := "7ea4650352d7877ac235afc75f19b86801d5c3612e75c6287185bd393c0031fb", func := "terrier/terrierlaw20.ReplyReads", spec := "replyReads", apart := false, narrowed := true }
def ReplyReadsUptoSaid : Prop := replyReadsUptoRow.holds Try.pinned (OpenSpec.upto replyReadsSpec)

end Rows
end Go.Proofs.Ytlhjdmpclfhoeaa
