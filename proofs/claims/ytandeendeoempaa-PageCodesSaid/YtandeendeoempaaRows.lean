/-
  No cell of these rows narrows 'for every input' (looked for: loops, veiled, ifaces, maps, wideKeys, modest, calm, conditions, laid).
  DERIVED. THE GIVEN ROWS OF THIS SEAT. 6 by the template 'for every input the law returns true; each argument reads behind the call as it read before'; 0 by the template 'total and deterministic' (their statements: YtandeendeoempaaTotals.lean).
  GIVEN WITH THE SEED: the statements are not yours to turn. If you find one false, say at which input.
  Laid BY PROGRAM, IN A SANDBOX (cutbox-rows.mjs): the forced cells as the released guide's own fill.sh prints them over the translation 90323a42e03f1048… (all of the seat's roots in one cut). By AI agents, Wed Nov 11 2026. No macro, syntax, notation, axiom, sorry.
-/
import Derived.Test.YtandeendeoempaaChecked
import GoSem.Claim
import GoSem.ClaimJoined
import GoSem.ClaimMapViews
import Derived.JoinedTies
import Derived.KernelRfl
namespace Go.Proofs.Ytandeendeoempaa
/- THE CELL 'sum', in the pinned program and in every row, IS THE sha256 OF THE DUMP (.gsa) THAT YtandeendeoempaaProg.lean LOADS. Nothing in Lean hashes anything: it is a label: what it is worth is what the hold of that sum in a sandbox is worth. -/
noncomputable def Try.pinned : Pinned := { name := "ytandeendeoempaa", sum := "90323a42e03f1048fc7c6fa4dd0d5bcee290ce7dc33ff561d6fc31dfeeaf45e5", checked := Try.checked }
namespace Rows
def none {H : Type} : Left H := { results := [], args := [] }

/-- 'terrierlaw04.PageCodes': WHATEVER THE INPUT: true; the input reads as it did. -/
def pageCodesSpec : ChangeSpec := { name := "pageCodes", fn := fun _ => fun
  | [d] => { results := [.lit (.bool true)], args := [d] }
  | _ => none }
def pageCodesRow : OpenClaim := { program := "ytandeendeoempaa", sum := "90323a42e03f1048fc7c6fa4dd0d5bcee290ce7dc33ff561d6fc31dfeeaf45e5", func := "terrier/terrierlaw04.PageCodes", spec := "pageCodes", inPlace := ["internal/bytealg.Compare"], apart := false }
def PageCodesSaid : Prop := pageCodesRow.holds Try.pinned (OpenSpec.ofChange pageCodesSpec)

/-- ITS FALSE NEIGHBOUR: 'it returns false'. Refute it at one input. -/
def pageCodesWrong : ChangeSpec := { name := "pageCodes", fn := fun _ => fun
  | [d] => { results := [.lit (.bool false)], args := [d] }
  | _ => none }
def PageCodesWrongFalsely : Prop := pageCodesRow.holds Try.pinned (OpenSpec.ofChange pageCodesWrong)

/-- 'terrierlaw04.PageUsed': WHATEVER THE INPUT: true; the input reads as it did. -/
def pageUsedSpec : ChangeSpec := { name := "pageUsed", fn := fun _ => fun
  | [d1, d2] => { results := [.lit (.bool true)], args := [d1, d2] }
  | _ => none }
def pageUsedRow : OpenClaim := { program := "ytandeendeoempaa", sum := "90323a42e03f1048fc7c6fa4dd0d5bcee290ce7dc33ff561d6fc31dfeeaf45e5", func := "terrier/terrierlaw04.PageUsed", spec := "pageUsed", inPlace := ["internal/bytealg.Compare"], apart := false }
def PageUsedSaid : Prop := pageUsedRow.holds Try.pinned (OpenSpec.ofChange pageUsedSpec)

/-- ITS FALSE NEIGHBOUR: 'it returns false'. Refute it at one input. -/
def pageUsedWrong : ChangeSpec := { name := "pageUsed", fn := fun _ => fun
  | [d1, d2] => { results := [.lit (.bool false)], args := [d1, d2] }
  | _ => none }
def PageUsedWrongFalsely : Prop := pageUsedRow.holds Try.pinned (OpenSpec.ofChange pageUsedWrong)

/-- 'terrierlaw04.PageReads': WHATEVER THE INPUT: true; the input reads as it did. -/
def pageReadsSpec : ChangeSpec := { name := "pageReads", fn := fun _ => fun
  | [d1, d2] => { results := [.lit (.bool true)], args := [d1, d2] }
  | _ => none }
def pageReadsRow : OpenClaim := { program := "ytandeendeoempaa", sum := "90323a42e03f1048fc7c6fa4dd0d5bcee290ce7dc33ff561d6fc31dfeeaf45e5", func := "terrier/terrierlaw04.PageReads", spec := "pageReads", inPlace := ["internal/bytealg.Compare"], apart := false }
def PageReadsSaid : Prop := pageReadsRow.holds Try.pinned (OpenSpec.ofChange pageReadsSpec)

/-- ITS FALSE NEIGHBOUR: 'it returns false'. Refute it at one input. -/
def pageReadsWrong : ChangeSpec := { name := "pageReads", fn := fun _ => fun
  | [d1, d2] => { results := [.lit (.bool false)], args := [d1, d2] }
  | _ => none }
def PageReadsWrongFalsely : Prop := pageReadsRow.holds Try.pinned (OpenSpec.ofChange pageReadsWrong)

/-- 'terrierlaw04.PageBack': WHATEVER THE INPUT: true; the input reads as it did. -/
def pageBackSpec : ChangeSpec := { name := "pageBack", fn := fun _ => fun
  | [d1, d2] => { results := [.lit (.bool true)], args := [d1, d2] }
  | _ => none }
def pageBackRow : OpenClaim := { program := "ytandeendeoempaa", sum := "90323a42e03f1048fc7c6fa4dd0d5bcee290ce7dc33ff561d6fc31dfeeaf45e5", func := "terrier/terrierlaw04.PageBack", spec := "pageBack", inPlace := ["internal/bytealg.Compare"], apart := false }
def PageBackSaid : Prop := pageBackRow.holds Try.pinned (OpenSpec.ofChange pageBackSpec)

/-- ITS FALSE NEIGHBOUR: 'it returns false'. Refute it at one input. -/
def pageBackWrong : ChangeSpec := { name := "pageBack", fn := fun _ => fun
  | [d1, d2] => { results := [.lit (.bool false)], args := [d1, d2] }
  | _ => none }
def PageBackWrongFalsely : Prop := pageBackRow.holds Try.pinned (OpenSpec.ofChange pageBackWrong)

/-- 'terrierlaw04.PageTurned': WHATEVER THE INPUT: true; the input reads as it did. -/
def pageTurnedSpec : ChangeSpec := { name := "pageTurned", fn := fun _ => fun
  | [d1, d2, d3] => { results := [.lit (.bool true)], args := [d1, d2, d3] }
  | _ => none }
def pageTurnedRow : OpenClaim := { program := "ytandeendeoempaa", sum := "90323a42e03f1048fc7c6fa4dd0d5bcee290ce7dc33ff561d6fc31dfeeaf45e5", func := "terrier/terrierlaw04.PageTurned", spec := "pageTurned", inPlace := ["internal/bytealg.Compare"], apart := false }
def PageTurnedSaid : Prop := pageTurnedRow.holds Try.pinned (OpenSpec.ofChange pageTurnedSpec)

/-- ITS FALSE NEIGHBOUR: 'it returns false'. Refute it at one input. -/
def pageTurnedWrong : ChangeSpec := { name := "pageTurned", fn := fun _ => fun
  | [d1, d2, d3] => { results := [.lit (.bool false)], args := [d1, d2, d3] }
  | _ => none }
def PageTurnedWrongFalsely : Prop := pageTurnedRow.holds Try.pinned (OpenSpec.ofChange pageTurnedWrong)

/-- 'terrierlaw04.PagePieces': WHATEVER THE INPUT: true; the input reads as it did. -/
def pagePiecesSpec : ChangeSpec := { name := "pagePieces", fn := fun _ => fun
  | [d1, d2, d3] => { results := [.lit (.bool true)], args := [d1, d2, d3] }
  | _ => none }
def pagePiecesRow : OpenClaim := { program := "ytandeendeoempaa", sum := "90323a42e03f1048fc7c6fa4dd0d5bcee290ce7dc33ff561d6fc31dfeeaf45e5", func := "terrier/terrierlaw04.PagePieces", spec := "pagePieces", inPlace := ["internal/bytealg.Compare"], apart := false }
def PagePiecesSaid : Prop := pagePiecesRow.holds Try.pinned (OpenSpec.ofChange pagePiecesSpec)

/-- ITS FALSE NEIGHBOUR: 'it returns false'. Refute it at one input. -/
def pagePiecesWrong : ChangeSpec := { name := "pagePieces", fn := fun _ => fun
  | [d1, d2, d3] => { results := [.lit (.bool false)], args := [d1, d2, d3] }
  | _ => none }
def PagePiecesWrongFalsely : Prop := pagePiecesRow.holds Try.pinned (OpenSpec.ofChange pagePiecesWrong)

/- THE SECOND FORM. 'bulk': how many values and letters a reading holds, each counted each time it is reached (what is shared counts as often as it is met; a slice's spare places count too). A statement '..UptoSaid' is the law's where the arguments, and the package variables that the reading takes, are together of bulk at most 1048576: NARROWER than '..Said'. Prove '..Said' where nothing that the law and all that it calls make is longer than what came in: it says more and counts as full. Else prove '..UptoSaid'. A law counts once. -/
mutual
def uptoBulk {H : Type} : DataW H → Nat
  | .lit (.string bytes) => bytes.length + 1
  | .lit _ => 1
  | .nil => 1
  | .ptr d => uptoBulk d + 1
  | .slice elems spare => uptoBulkAll elems + uptoBulkAll spare + 1
  | .agg parts => uptoBulkAll parts + 1
  | .iface _ d => uptoBulk d + 1
  | .map entries => uptoBulkEntries entries + 1
  | .held _ => 1
def uptoBulkAll {H : Type} : List (DataW H) → Nat
  | [] => 0
  | d :: r => uptoBulk d + uptoBulkAll r
def uptoBulkEntries {H : Type} : List (Lit × DataW H) → Nat
  | [] => 0
  | x :: r => uptoBulkEntry x + uptoBulkEntries r
def uptoBulkEntry {H : Type} : Lit × DataW H → Nat
  | (.string bytes, d) => bytes.length + uptoBulk d + 1
  | (_, d) => uptoBulk d + 1
 end
def uptoSmall : (H : Type) → List (DataW H) → Bool := fun _ ds => decide (uptoBulkAll ds ≤ 1048576)
def OpenSpec.upto (s : _root_.Go.ChangeSpec) : _root_.Go.OpenSpec := { _root_.Go.OpenSpec.ofChange s with cond := some uptoSmall }

/-- 'terrierlaw04.PageCodes', WHERE WHAT IT READS IS OF BULK AT MOST 1048576: true; the input reads as it did. -/
def pageCodesUptoRow : OpenClaim := { program := "ytandeendeoempaa", sum := "90323a42e03f1048fc7c6fa4dd0d5bcee290ce7dc33ff561d6fc31dfeeaf45e5", func := "terrier/terrierlaw04.PageCodes", spec := "pageCodes", inPlace := ["internal/bytealg.Compare"], apart := false, narrowed := true }
def PageCodesUptoSaid : Prop := pageCodesUptoRow.holds Try.pinned (OpenSpec.upto pageCodesSpec)

/-- 'terrierlaw04.PageUsed', WHERE WHAT IT READS IS OF BULK AT MOST 1048576: true; the input reads as it did. -/
def pageUsedUptoRow : OpenClaim := { program := "ytandeendeoempaa", sum := "90323a42e03f1048fc7c6fa4dd0d5bcee290ce7dc33ff561d6fc31dfeeaf45e5", func := "terrier/terrierlaw04.PageUsed", spec := "pageUsed", inPlace := ["internal/bytealg.Compare"], apart := false, narrowed := true }
def PageUsedUptoSaid : Prop := pageUsedUptoRow.holds Try.pinned (OpenSpec.upto pageUsedSpec)

/-- 'terrierlaw04.PageReads', WHERE WHAT IT READS IS OF BULK AT MOST 1048576: true; the input reads as it did. -/
def pageReadsUptoRow : OpenClaim := { program := "ytandeendeoempaa", sum := "90323a42e03f1048fc7c6fa4dd0d5bcee290ce7dc33ff561d6fc31dfeeaf45e5", func := "terrier/terrierlaw04.PageReads", spec := "pageReads", inPlace := ["internal/bytealg.Compare"], apart := false, narrowed := true }
def PageReadsUptoSaid : Prop := pageReadsUptoRow.holds Try.pinned (OpenSpec.upto pageReadsSpec)

/-- 'terrierlaw04.PageBack', WHERE WHAT IT READS IS OF BULK AT MOST 1048576: true; the input reads as it did. -/
def pageBackUptoRow : OpenClaim := { program := "ytandeendeoempaa", sum := "90323a42e03f1048fc7c6fa4dd0d5bcee290ce7dc33ff561d6fc31dfeeaf45e5", func := "terrier/terrierlaw04.PageBack", spec := "pageBack", inPlace := ["internal/bytealg.Compare"], apart := false, narrowed := true }
def PageBackUptoSaid : Prop := pageBackUptoRow.holds Try.pinned (OpenSpec.upto pageBackSpec)

/-- 'terrierlaw04.PageTurned', WHERE WHAT IT READS IS OF BULK AT MOST 1048576: true; the input reads as it did. -/
def pageTurnedUptoRow : OpenClaim := { program := "ytandeendeoempaa", sum := "90323a42e03f1048fc7c6fa4dd0d5bcee290ce7dc33ff561d6fc31dfeeaf45e5", func := "terrier/terrierlaw04.PageTurned", spec := "pageTurned", inPlace := ["internal/bytealg.Compare"], apart := false, narrowed := true }
def PageTurnedUptoSaid : Prop := pageTurnedUptoRow.holds Try.pinned (OpenSpec.upto pageTurnedSpec)

/-- 'terrierlaw04.PagePieces', WHERE WHAT IT READS IS OF BULK AT MOST 1048576: true; the input reads as it did. -/
def pagePiecesUptoRow : OpenClaim := { program := "ytandeendeoempaa", sum := "90323a42e03f1048fc7c6fa4dd0d5bcee290ce7dc33ff561d6fc31dfeeaf45e5", func := "terrier/terrierlaw04.PagePieces", spec := "pagePieces", inPlace := ["internal/bytealg.Compare"], apart := false, narrowed := true }
def PagePiecesUptoSaid : Prop := pagePiecesUptoRow.holds Try.pinned (OpenSpec.upto pagePiecesSpec)

end Rows
end Go.Proofs.Ytandeendeoempaa
