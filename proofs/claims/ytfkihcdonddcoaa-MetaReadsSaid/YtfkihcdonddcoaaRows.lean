/-
  No cell of these rows narrows 'for every input' (looked for: loops, veiled, ifaces, maps, wideKeys, modest, calm, conditions, laid).
  DERIVED. THE GIVEN ROWS OF THIS SEAT. 6 by the template 'for every input the law returns true; each argument reads behind the call as it read before'; 0 by the template 'total and deterministic' (their statements: YtfkihcdonddcoaaTotals.lean).
  GIVEN WITH THE SEED: the statements are not yours to turn. If you find one false, say at which input.
  Laid BY PROGRAM, IN A SANDBOX (cutbox-rows.mjs): the forced cells as the released guide's own fill.sh prints them over the translation 5e35d8d5d191ea0f… (all of the seat's roots in one cut). By AI agents, Wed Nov 11 2026. No macro, syntax, notation, axiom, sorry.
-/
import Derived.Test.YtfkihcdonddcoaaChecked
import GoSem.Claim
import GoSem.ClaimJoined
import GoSem.ClaimMapViews
import Derived.JoinedTies
import Derived.KernelRfl
namespace Go.Proofs.Ytfkihcdonddcoaa
/- THE CELL 'sum', in the pinned program and in every row, IS THE sha256 OF THE DUMP (.gsa) THAT YtfkihcdonddcoaaProg.lean LOADS. Nothing in Lean hashes anything: it is a label: what it is worth is what the hold of that sum in a sandbox is worth. -/
noncomputable def Try.pinned : Pinned := { name := "ytfkihcdonddcoaa", sum := "5e35d8d5d191ea0f49990c81c77354f4b71ac136a7ffd0cca824ce5dfacdd8ee", checked := Try.checked }
namespace Rows
def none {H : Type} : Left H := { results := [], args := [] }

/-- 'terrierlaw05.MetaCodes': WHATEVER THE INPUT: true; the input reads as it did. -/
def metaCodesSpec : ChangeSpec := { name := "metaCodes", fn := fun _ => fun
  | [d] => { results := [.lit (.bool true)], args := [d] }
  | _ => none }
def metaCodesRow : OpenClaim := { program := "ytfkihcdonddcoaa", sum := "5e35d8d5d191ea0f49990c81c77354f4b71ac136a7ffd0cca824ce5dfacdd8ee", func := "terrier/terrierlaw05.MetaCodes", spec := "metaCodes", unfollowed := true, recurses := true, apart := false }
def MetaCodesSaid : Prop := metaCodesRow.holds Try.pinned (OpenSpec.ofChange metaCodesSpec)

/-- ITS FALSE NEIGHBOUR: 'it returns false'. Refute it at one input. -/
def metaCodesWrong : ChangeSpec := { name := "metaCodes", fn := fun _ => fun
  | [d] => { results := [.lit (.bool false)], args := [d] }
  | _ => none }
def MetaCodesWrongFalsely : Prop := metaCodesRow.holds Try.pinned (OpenSpec.ofChange metaCodesWrong)

/-- 'terrierlaw05.MetaReads': WHATEVER THE INPUT: true; the input reads as it did. -/
def metaReadsSpec : ChangeSpec := { name := "metaReads", fn := fun _ => fun
  | [d1, d2] => { results := [.lit (.bool true)], args := [d1, d2] }
  | _ => none }
def metaReadsRow : OpenClaim := { program := "ytfkihcdonddcoaa", sum := "5e35d8d5d191ea0f49990c81c77354f4b71ac136a7ffd0cca824ce5dfacdd8ee", func := "terrier/terrierlaw05.MetaReads", spec := "metaReads", unfollowed := true, recurses := true, apart := false }
def MetaReadsSaid : Prop := metaReadsRow.holds Try.pinned (OpenSpec.ofChange metaReadsSpec)

/-- ITS FALSE NEIGHBOUR: 'it returns false'. Refute it at one input. -/
def metaReadsWrong : ChangeSpec := { name := "metaReads", fn := fun _ => fun
  | [d1, d2] => { results := [.lit (.bool false)], args := [d1, d2] }
  | _ => none }
def MetaReadsWrongFalsely : Prop := metaReadsRow.holds Try.pinned (OpenSpec.ofChange metaReadsWrong)

/-- 'terrierlaw05.MetaBack': WHATEVER THE INPUT: true; the input reads as it did. -/
def metaBackSpec : ChangeSpec := { name := "metaBack", fn := fun _ => fun
  | [d1, d2] => { results := [.lit (.bool true)], args := [d1, d2] }
  | _ => none }
def metaBackRow : OpenClaim := { program := "ytfkihcdonddcoaa", sum := "5e35d8d5d191ea0f49990c81c77354f4b71ac136a7ffd0cca824ce5dfacdd8ee", func := "terrier/terrierlaw05.MetaBack", spec := "metaBack", unfollowed := true, recurses := true, apart := false }
def MetaBackSaid : Prop := metaBackRow.holds Try.pinned (OpenSpec.ofChange metaBackSpec)

/-- ITS FALSE NEIGHBOUR: 'it returns false'. Refute it at one input. -/
def metaBackWrong : ChangeSpec := { name := "metaBack", fn := fun _ => fun
  | [d1, d2] => { results := [.lit (.bool false)], args := [d1, d2] }
  | _ => none }
def MetaBackWrongFalsely : Prop := metaBackRow.holds Try.pinned (OpenSpec.ofChange metaBackWrong)

/-- 'terrierlaw05.MetaChooses': WHATEVER THE INPUT: true; the input reads as it did. -/
def metaChoosesSpec : ChangeSpec := { name := "metaChooses", fn := fun _ => fun
  | [d1, d2] => { results := [.lit (.bool true)], args := [d1, d2] }
  | _ => none }
def metaChoosesRow : OpenClaim := { program := "ytfkihcdonddcoaa", sum := "5e35d8d5d191ea0f49990c81c77354f4b71ac136a7ffd0cca824ce5dfacdd8ee", func := "terrier/terrierlaw05.MetaChooses", spec := "metaChooses", unfollowed := true, recurses := true, apart := false }
def MetaChoosesSaid : Prop := metaChoosesRow.holds Try.pinned (OpenSpec.ofChange metaChoosesSpec)

/-- ITS FALSE NEIGHBOUR: 'it returns false'. Refute it at one input. -/
def metaChoosesWrong : ChangeSpec := { name := "metaChooses", fn := fun _ => fun
  | [d1, d2] => { results := [.lit (.bool false)], args := [d1, d2] }
  | _ => none }
def MetaChoosesWrongFalsely : Prop := metaChoosesRow.holds Try.pinned (OpenSpec.ofChange metaChoosesWrong)

/-- 'terrierlaw05.MetaTurns': WHATEVER THE INPUT: true; the input reads as it did. -/
def metaTurnsSpec : ChangeSpec := { name := "metaTurns", fn := fun _ => fun
  | [d1, d2, d3, d4] => { results := [.lit (.bool true)], args := [d1, d2, d3, d4] }
  | _ => none }
def metaTurnsRow : OpenClaim := { program := "ytfkihcdonddcoaa", sum := "5e35d8d5d191ea0f49990c81c77354f4b71ac136a7ffd0cca824ce5dfacdd8ee", func := "terrier/terrierlaw05.MetaTurns", spec := "metaTurns", unfollowed := true, recurses := true, apart := false }
def MetaTurnsSaid : Prop := metaTurnsRow.holds Try.pinned (OpenSpec.ofChange metaTurnsSpec)

/-- ITS FALSE NEIGHBOUR: 'it returns false'. Refute it at one input. -/
def metaTurnsWrong : ChangeSpec := { name := "metaTurns", fn := fun _ => fun
  | [d1, d2, d3, d4] => { results := [.lit (.bool false)], args := [d1, d2, d3, d4] }
  | _ => none }
def MetaTurnsWrongFalsely : Prop := metaTurnsRow.holds Try.pinned (OpenSpec.ofChange metaTurnsWrong)

/-- 'terrierlaw05.MetaPlaces': WHATEVER THE INPUT: true; the input reads as it did. -/
def metaPlacesSpec : ChangeSpec := { name := "metaPlaces", fn := fun _ => fun
  | [d1, d2] => { results := [.lit (.bool true)], args := [d1, d2] }
  | _ => none }
def metaPlacesRow : OpenClaim := { program := "ytfkihcdonddcoaa", sum := "5e35d8d5d191ea0f49990c81c77354f4b71ac136a7ffd0cca824ce5dfacdd8ee", func := "terrier/terrierlaw05.MetaPlaces", spec := "metaPlaces", unfollowed := true, recurses := true, apart := false }
def MetaPlacesSaid : Prop := metaPlacesRow.holds Try.pinned (OpenSpec.ofChange metaPlacesSpec)

/-- ITS FALSE NEIGHBOUR: 'it returns false'. Refute it at one input. -/
def metaPlacesWrong : ChangeSpec := { name := "metaPlaces", fn := fun _ => fun
  | [d1, d2] => { results := [.lit (.bool false)], args := [d1, d2] }
  | _ => none }
def MetaPlacesWrongFalsely : Prop := metaPlacesRow.holds Try.pinned (OpenSpec.ofChange metaPlacesWrong)

/- THE SECOND FORM. 'bulk': how many values and letters a reading holds, each counted each time it is reached (what is shared counts as often as it is met; a slice's spare places count too). A statement '..UptoSaid' is the law's where the arguments, and the package variables that the reading takes, are together of bulk at most 1048576: NARROWER than '..Said'. Prove '..Said' where nothing that the law and all that it calls make is longer than what came in: it says more and counts as full. Else prove '..UptoSaid'. A law counts once. -/
mutual
def uptoBulk {H : Type} : DataW H → Nat
  | .lit (.string bytes) => bytes.length + 1
  | .lit _ => 1
  | .nil => 1
  | .ptr d => uptoBulk d + 1
  | .slice elems spare => uptoBulkAll elems + uptoBulkAll spare + 1
  | .agg parts => uptoBulkAll parts + 1
  | .iface _ d => uptoBulk d + 1
  | .map entries => uptoBulkEntries entries + 1
  | .held _ => 1
def uptoBulkAll {H : Type} : List (DataW H) → Nat
  | [] => 0
  | d :: r => uptoBulk d + uptoBulkAll r
def uptoBulkEntries {H : Type} : List (Lit × DataW H) → Nat
  | [] => 0
  | x :: r => uptoBulkEntry x + uptoBulkEntries r
def uptoBulkEntry {H : Type} : Lit × DataW H → Nat
  | (.string bytes, d) => bytes.length + uptoBulk d + 1
  | (_, d) => uptoBulk d + 1
 end
def uptoSmall : (H : Type) → List (DataW H) → Bool := fun _ ds => decide (uptoBulkAll ds ≤ 1048576)
def OpenSpec.upto (s : _root_.Go.ChangeSpec) : _root_.Go.OpenSpec := { _root_.Go.OpenSpec.ofChange s with cond := some uptoSmall }

/-- 'terrierlaw05.MetaCodes', WHERE WHAT IT READS IS OF BULK AT MOST 1048576: true; the input reads as it did. -/
def metaCodesUptoRow : OpenClaim := { program := "ytfkihcdonddcoaa", sum := "5e35d8d5d191ea0f49990c81c77354f4b71ac136a7ffd0cca824ce5dfacdd8ee", func := "terrier/terrierlaw05.MetaCodes", spec := "metaCodes", unfollowed := true, recurses := true, apart := false, narrowed := true }
def MetaCodesUptoSaid : Prop := metaCodesUptoRow.holds Try.pinned (OpenSpec.upto metaCodesSpec)

/-- 'terrierlaw05.MetaReads', WHERE WHAT IT READS IS OF BULK AT MOST 1048576: true; the input reads as it did. -/
def metaReadsUptoRow : OpenClaim := { program := "ytfkihcdonddcoaa", sum := "5e35d8d5d191ea0f49990c81c77354f4b71ac136a7ffd0cca824ce5dfacdd8ee", func := "terrier/terrierlaw05.MetaReads", spec := "metaReads", unfollowed := true, recurses := true, apart := false, narrowed := true }
def MetaReadsUptoSaid : Prop := metaReadsUptoRow.holds Try.pinned (OpenSpec.upto metaReadsSpec)

/-- 'terrierlaw05.MetaBack', WHERE WHAT IT READS IS OF BULK AT MOST 1048576: true; the input reads as it did. -/
def metaBackUptoRow : OpenClaim := { program := "ytfkihcdonddcoaa", sum := "5e35d8d5d191ea0f49990c81c77354f4b71ac136a7ffd0cca824ce5dfacdd8ee", func := "terrier/terrierlaw05.MetaBack", spec := "metaBack", unfollowed := true, recurses := true, apart := false, narrowed := true }
def MetaBackUptoSaid : Prop := metaBackUptoRow.holds Try.pinned (OpenSpec.upto metaBackSpec)

/-- 'terrierlaw05.MetaChooses', WHERE WHAT IT READS IS OF BULK AT MOST 1048576: true; the input reads as it did. -/
def metaChoosesUptoRow : OpenClaim := { program := "ytfkihcdonddcoaa", sum := "5e35d8d5d191ea0f49990c81c77354f4b71ac136a7ffd0cca824ce5dfacdd8ee", func := "terrier/terrierlaw05.MetaChooses", spec := "metaChooses", unfollowed := true, recurses := true, apart := false, narrowed := true }
def MetaChoosesUptoSaid : Prop := metaChoosesUptoRow.holds Try.pinned (OpenSpec.upto metaChoosesSpec)

/-- 'terrierlaw05.MetaTurns', WHERE WHAT IT READS IS OF BULK AT MOST 1048576: true; the input reads as it did. -/
def metaTurnsUptoRow : OpenClaim := { program := "ytfkihcdonddcoaa", sum := "5e35d8d5d191ea0f49990c81c77354f4b71ac136a7ffd0cca824ce5dfacdd8ee", func := "terrier/terrierlaw05.MetaTurns", spec := "metaTurns", unfollowed := true, recurses := true, apart := false, narrowed := true }
def MetaTurnsUptoSaid : Prop := metaTurnsUptoRow.holds Try.pinned (OpenSpec.upto metaTurnsSpec)

/-- 'terrierlaw05.MetaPlaces', WHERE WHAT IT READS IS OF BULK AT MOST 1048576: true; the input reads as it did. -/
def metaPlacesUptoRow : OpenClaim := { program := "ytfkihcdonddcoaa", sum := "5e35d8d5d191ea0f49990c81c77354f4b71ac136a7ffd0cca824ce5dfacdd8ee", func := "terrier/terrierlaw05.MetaPlaces", spec := "metaPlaces", unfollowed := true, recurses := true, apart := false, narrowed := true }
def MetaPlacesUptoSaid : Prop := metaPlacesUptoRow.holds Try.pinned (OpenSpec.upto metaPlacesSpec)

end Rows
end Go.Proofs.Ytfkihcdonddcoaa
