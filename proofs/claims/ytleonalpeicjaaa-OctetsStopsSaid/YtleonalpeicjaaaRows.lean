/-
  No cell of these rows narrows 'for every input' (looked for: loops, veiled, ifaces, maps, wideKeys, modest, calm, conditions, laid).
  DERIVED. THE GIVEN ROWS OF THIS SEAT. 9 by the template 'for every input the law returns true; each argument reads behind the call as it read before'; 0 by the template 'total and deterministic' (their statements: YtleonalpeicjaaaTotals.lean).
  GIVEN WITH THE SEED: the statements are not yours to turn. If you find one false, say at which input.
  Laid BY PROGRAM, IN A SANDBOX (cutbox-rows.mjs): the forced cells as the released guide's own fill.sh prints them over the translation b8d1e47cdfc149cd… (all of the seat's roots in one cut). By AI agents, Wed Nov 11 2026. No macro, syntax, notation, axiom, sorry.
-/
import Derived.Test.YtleonalpeicjaaaChecked
import GoSem.Claim
import GoSem.ClaimJoined
import GoSem.ClaimMapViews
import Derived.JoinedTies
import Derived.KernelRfl
namespace Go.Proofs.Ytleonalpeicjaaa
/- THE CELL 'sum', in the pinned program and in every row, IS THE sha256 OF THE DUMP (.gsa) THAT YtleonalpeicjaaaProg.lean LOADS. Nothing in Lean hashes anything: it is a label: what it is worth is what the hold of that sum in a sandbox is worth. -/
noncomputable def Try.pinned : Pinned := { name := "ytleonalpeicjaaa", sum := "b8d1e47cdfc149cd85fb170c70ac9f99987f7a9518e8ccf96760f924b2bc7b82", checked := Try.checked }
namespace Rows
def none {H : Type} : Left H := { results := [], args := [] }

/-- 'terrierlaw01.OctetsKeys': WHATEVER THE INPUT: true; the input reads as it did. -/
def octetsKeysSpec : ChangeSpec := { name := "octetsKeys", fn := fun _ => fun
  | [d1, d2] => { results := [.lit (.bool true)], args := [d1, d2] }
  | _ => none }
def octetsKeysRow : OpenClaim := { program := "ytleonalpeicjaaa", sum := "b8d1e47cdfc149cd85fb170c70ac9f99987f7a9518e8ccf96760f924b2bc7b82", func := "terrier/terrierlaw01.OctetsKeys", spec := "octetsKeys", inPlace := ["internal/bytealg.Compare"], apart := false }
def OctetsKeysSaid : Prop := octetsKeysRow.holds Try.pinned (OpenSpec.ofChange octetsKeysSpec)

/-- ITS FALSE NEIGHBOUR: 'it returns false'. Refute it at one input. -/
def octetsKeysWrong : ChangeSpec := { name := "octetsKeys", fn := fun _ => fun
  | [d1, d2] => { results := [.lit (.bool false)], args := [d1, d2] }
  | _ => none }
def OctetsKeysWrongFalsely : Prop := octetsKeysRow.holds Try.pinned (OpenSpec.ofChange octetsKeysWrong)

/-- 'terrierlaw01.OctetsOrders': WHATEVER THE INPUT: true; the input reads as it did. -/
def octetsOrdersSpec : ChangeSpec := { name := "octetsOrders", fn := fun _ => fun
  | [d1, d2, d3] => { results := [.lit (.bool true)], args := [d1, d2, d3] }
  | _ => none }
def octetsOrdersRow : OpenClaim := { program := "ytleonalpeicjaaa", sum := "b8d1e47cdfc149cd85fb170c70ac9f99987f7a9518e8ccf96760f924b2bc7b82", func := "terrier/terrierlaw01.OctetsOrders", spec := "octetsOrders", inPlace := ["internal/bytealg.Compare"], apart := false }
def OctetsOrdersSaid : Prop := octetsOrdersRow.holds Try.pinned (OpenSpec.ofChange octetsOrdersSpec)

/-- ITS FALSE NEIGHBOUR: 'it returns false'. Refute it at one input. -/
def octetsOrdersWrong : ChangeSpec := { name := "octetsOrders", fn := fun _ => fun
  | [d1, d2, d3] => { results := [.lit (.bool false)], args := [d1, d2, d3] }
  | _ => none }
def OctetsOrdersWrongFalsely : Prop := octetsOrdersRow.holds Try.pinned (OpenSpec.ofChange octetsOrdersWrong)

/-- 'terrierlaw01.OctetsPuts': WHATEVER THE INPUT: true; the input reads as it did. -/
def octetsPutsSpec : ChangeSpec := { name := "octetsPuts", fn := fun _ => fun
  | [d1, d2] => { results := [.lit (.bool true)], args := [d1, d2] }
  | _ => none }
def octetsPutsRow : OpenClaim := { program := "ytleonalpeicjaaa", sum := "b8d1e47cdfc149cd85fb170c70ac9f99987f7a9518e8ccf96760f924b2bc7b82", func := "terrier/terrierlaw01.OctetsPuts", spec := "octetsPuts", apart := false }
def OctetsPutsSaid : Prop := octetsPutsRow.holds Try.pinned (OpenSpec.ofChange octetsPutsSpec)

/-- ITS FALSE NEIGHBOUR: 'it returns false'. Refute it at one input. -/
def octetsPutsWrong : ChangeSpec := { name := "octetsPuts", fn := fun _ => fun
  | [d1, d2] => { results := [.lit (.bool false)], args := [d1, d2] }
  | _ => none }
def OctetsPutsWrongFalsely : Prop := octetsPutsRow.holds Try.pinned (OpenSpec.ofChange octetsPutsWrong)

/-- 'terrierlaw01.OctetsGets': WHATEVER THE INPUT: true; the input reads as it did. -/
def octetsGetsSpec : ChangeSpec := { name := "octetsGets", fn := fun _ => fun
  | [d1, d2, d3] => { results := [.lit (.bool true)], args := [d1, d2, d3] }
  | _ => none }
def octetsGetsRow : OpenClaim := { program := "ytleonalpeicjaaa", sum := "b8d1e47cdfc149cd85fb170c70ac9f99987f7a9518e8ccf96760f924b2bc7b82", func := "terrier/terrierlaw01.OctetsGets", spec := "octetsGets", apart := false }
def OctetsGetsSaid : Prop := octetsGetsRow.holds Try.pinned (OpenSpec.ofChange octetsGetsSpec)

/-- ITS FALSE NEIGHBOUR: 'it returns false'. Refute it at one input. -/
def octetsGetsWrong : ChangeSpec := { name := "octetsGets", fn := fun _ => fun
  | [d1, d2, d3] => { results := [.lit (.bool false)], args := [d1, d2, d3] }
  | _ => none }
def OctetsGetsWrongFalsely : Prop := octetsGetsRow.holds Try.pinned (OpenSpec.ofChange octetsGetsWrong)

/-- 'terrierlaw01.OctetsBack': WHATEVER THE INPUT: true; the input reads as it did. -/
def octetsBackSpec : ChangeSpec := { name := "octetsBack", fn := fun _ => fun
  | [d1, d2, d3, d4, d5] => { results := [.lit (.bool true)], args := [d1, d2, d3, d4, d5] }
  | _ => none }
def octetsBackRow : OpenClaim := { program := "ytleonalpeicjaaa", sum := "b8d1e47cdfc149cd85fb170c70ac9f99987f7a9518e8ccf96760f924b2bc7b82", func := "terrier/terrierlaw01.OctetsBack", spec := "octetsBack", inPlace := ["internal/bytealg.Compare"], apart := false }
def OctetsBackSaid : Prop := octetsBackRow.holds Try.pinned (OpenSpec.ofChange octetsBackSpec)

/-- ITS FALSE NEIGHBOUR: 'it returns false'. Refute it at one input. -/
def octetsBackWrong : ChangeSpec := { name := "octetsBack", fn := fun _ => fun
  | [d1, d2, d3, d4, d5] => { results := [.lit (.bool false)], args := [d1, d2, d3, d4, d5] }
  | _ => none }
def OctetsBackWrongFalsely : Prop := octetsBackRow.holds Try.pinned (OpenSpec.ofChange octetsBackWrong)

/-- 'terrierlaw01.OctetsRanges': WHATEVER THE INPUT: true; the input reads as it did. -/
def octetsRangesSpec : ChangeSpec := { name := "octetsRanges", fn := fun _ => fun
  | [d1, d2, d3] => { results := [.lit (.bool true)], args := [d1, d2, d3] }
  | _ => none }
def octetsRangesRow : OpenClaim := { program := "ytleonalpeicjaaa", sum := "b8d1e47cdfc149cd85fb170c70ac9f99987f7a9518e8ccf96760f924b2bc7b82", func := "terrier/terrierlaw01.OctetsRanges", spec := "octetsRanges", inPlace := ["internal/bytealg.Compare"], apart := false }
def OctetsRangesSaid : Prop := octetsRangesRow.holds Try.pinned (OpenSpec.ofChange octetsRangesSpec)

/-- ITS FALSE NEIGHBOUR: 'it returns false'. Refute it at one input. -/
def octetsRangesWrong : ChangeSpec := { name := "octetsRanges", fn := fun _ => fun
  | [d1, d2, d3] => { results := [.lit (.bool false)], args := [d1, d2, d3] }
  | _ => none }
def OctetsRangesWrongFalsely : Prop := octetsRangesRow.holds Try.pinned (OpenSpec.ofChange octetsRangesWrong)

/-- 'terrierlaw01.OctetsPrefixes': WHATEVER THE INPUT: true; the input reads as it did. -/
def octetsPrefixesSpec : ChangeSpec := { name := "octetsPrefixes", fn := fun _ => fun
  | [d1, d2] => { results := [.lit (.bool true)], args := [d1, d2] }
  | _ => none }
def octetsPrefixesRow : OpenClaim := { program := "ytleonalpeicjaaa", sum := "b8d1e47cdfc149cd85fb170c70ac9f99987f7a9518e8ccf96760f924b2bc7b82", func := "terrier/terrierlaw01.OctetsPrefixes", spec := "octetsPrefixes", inPlace := ["internal/bytealg.Compare"], apart := false }
def OctetsPrefixesSaid : Prop := octetsPrefixesRow.holds Try.pinned (OpenSpec.ofChange octetsPrefixesSpec)

/-- ITS FALSE NEIGHBOUR: 'it returns false'. Refute it at one input. -/
def octetsPrefixesWrong : ChangeSpec := { name := "octetsPrefixes", fn := fun _ => fun
  | [d1, d2] => { results := [.lit (.bool false)], args := [d1, d2] }
  | _ => none }
def OctetsPrefixesWrongFalsely : Prop := octetsPrefixesRow.holds Try.pinned (OpenSpec.ofChange octetsPrefixesWrong)

/-- 'terrierlaw01.OctetsStops': WHATEVER THE INPUT: true; the input reads as it did. -/
def octetsStopsSpec : ChangeSpec := { name := "octetsStops", fn := fun _ => fun
  | [d1, d2] => { results := [.lit (.bool true)], args := [d1, d2] }
  | _ => none }
def octetsStopsRow : OpenClaim := { program := "ytleonalpeicjaaa", sum := "b8d1e47cdfc149cd85fb170c70ac9f99987f7a9518e8ccf96760f924b2bc7b82", func := "terrier/terrierlaw01.OctetsStops", spec := "octetsStops", apart := false }
def OctetsStopsSaid : Prop := octetsStopsRow.holds Try.pinned (OpenSpec.ofChange octetsStopsSpec)

/-- ITS FALSE NEIGHBOUR: 'it returns false'. Refute it at one input. -/
def octetsStopsWrong : ChangeSpec := { name := "octetsStops", fn := fun _ => fun
  | [d1, d2] => { results := [.lit (.bool false)], args := [d1, d2] }
  | _ => none }
def OctetsStopsWrongFalsely : Prop := octetsStopsRow.holds Try.pinned (OpenSpec.ofChange octetsStopsWrong)

/-- 'terrierlaw01.OctetsTexts': WHATEVER THE INPUT: true; the input reads as it did. -/
def octetsTextsSpec : ChangeSpec := { name := "octetsTexts", fn := fun _ => fun
  | [d] => { results := [.lit (.bool true)], args := [d] }
  | _ => none }
def octetsTextsRow : OpenClaim := { program := "ytleonalpeicjaaa", sum := "b8d1e47cdfc149cd85fb170c70ac9f99987f7a9518e8ccf96760f924b2bc7b82", func := "terrier/terrierlaw01.OctetsTexts", spec := "octetsTexts", apart := false }
def OctetsTextsSaid : Prop := octetsTextsRow.holds Try.pinned (OpenSpec.ofChange octetsTextsSpec)

/-- ITS FALSE NEIGHBOUR: 'it returns false'. Refute it at one input. -/
def octetsTextsWrong : ChangeSpec := { name := "octetsTexts", fn := fun _ => fun
  | [d] => { results := [.lit (.bool false)], args := [d] }
  | _ => none }
def OctetsTextsWrongFalsely : Prop := octetsTextsRow.holds Try.pinned (OpenSpec.ofChange octetsTextsWrong)

/- THE SECOND FORM. 'bulk': how many values and letters a reading holds, each counted each time it is reached (what is shared counts as often as it is met; a slice's spare places count too). A statement '..UptoSaid' is the law's where the arguments, and the package variables that the reading takes, are together of bulk at most 1048576: NARROWER than '..Said'. Prove '..Said' where nothing that the law and all that it calls make is longer than what came in: it says more and counts as full. Else prove '..UptoSaid'. A law counts once. -/
mutual
def uptoBulk {H : Type} : DataW H → Nat
  | .lit (.string bytes) => bytes.length + 1
  | .lit _ => 1
  | .nil => 1
  | .ptr d => uptoBulk d + 1
  | .slice elems spare => uptoBulkAll elems + uptoBulkAll spare + 1
  | .agg parts => uptoBulkAll parts + 1
  | .iface _ d => uptoBulk d + 1
  | .map entries => uptoBulkEntries entries + 1
  | .held _ => 1
def uptoBulkAll {H : Type} : List (DataW H) → Nat
  | [] => 0
  | d :: r => uptoBulk d + uptoBulkAll r
def uptoBulkEntries {H : Type} : List (Lit × DataW H) → Nat
  | [] => 0
  | x :: r => uptoBulkEntry x + uptoBulkEntries r
def uptoBulkEntry {H : Type} : Lit × DataW H → Nat
  | (.string bytes, d) => bytes.length + uptoBulk d + 1
  | (_, d) => uptoBulk d + 1
 end
def uptoSmall : (H : Type) → List (DataW H) → Bool := fun _ ds => decide (uptoBulkAll ds ≤ 1048576)
def OpenSpec.upto (s : _root_.Go.ChangeSpec) : _root_.Go.OpenSpec := { _root_.Go.OpenSpec.ofChange s with cond := some uptoSmall }

/-- 'terrierlaw01.OctetsKeys', WHERE WHAT IT READS IS OF BULK AT MOST 1048576: true; the input reads as it did. -/
def octetsKeysUptoRow : OpenClaim := { program := "ytleonalpeicjaaa", sum := "b8d1e47cdfc149cd85fb170c70ac9f99987f7a9518e8ccf96760f924b2bc7b82", func := "terrier/terrierlaw01.OctetsKeys", spec := "octetsKeys", inPlace := ["internal/bytealg.Compare"], apart := false, narrowed := true }
def OctetsKeysUptoSaid : Prop := octetsKeysUptoRow.holds Try.pinned (OpenSpec.upto octetsKeysSpec)

/-- 'terrierlaw01.OctetsOrders', WHERE WHAT IT READS IS OF BULK AT MOST 1048576: true; the input reads as it did. -/
def octetsOrdersUptoRow : OpenClaim := { program := "ytleonalpeicjaaa", sum := "b8d1e47cdfc149cd85fb170c70ac9f99987f7a9518e8ccf96760f924b2bc7b82", func := "terrier/terrierlaw01.OctetsOrders", spec := "octetsOrders", inPlace := ["internal/bytealg.Compare"], apart := false, narrowed := true }
def OctetsOrdersUptoSaid : Prop := octetsOrdersUptoRow.holds Try.pinned (OpenSpec.upto octetsOrdersSpec)

/-- 'terrierlaw01.OctetsPuts', WHERE WHAT IT READS IS OF BULK AT MOST 1048576: true; the input reads as it did. -/
def octetsPutsUptoRow : OpenClaim := { program := "ytleonalpeicjaaa", sum := "b8d1e47cdfc149cd85fb170c70ac9f99987f7a9518e8ccf96760f924b2bc7b82", func := "terrier/terrierlaw01.OctetsPuts", spec := "octetsPuts", apart := false, narrowed := true }
def OctetsPutsUptoSaid : Prop := octetsPutsUptoRow.holds Try.pinned (OpenSpec.upto octetsPutsSpec)

/-- 'terrierlaw01.OctetsGets', WHERE WHAT IT READS IS OF BULK AT MOST 1048576: true; the input reads as it did. -/
def octetsGetsUptoRow : OpenClaim := { program := "ytleonalpeicjaaa", sum := "b8d1e47cdfc149cd85fb170c70ac9f99987f7a9518e8ccf96760f924b2bc7b82", func := "terrier/terrierlaw01.OctetsGets", spec := "octetsGets", apart := false, narrowed := true }
def OctetsGetsUptoSaid : Prop := octetsGetsUptoRow.holds Try.pinned (OpenSpec.upto octetsGetsSpec)

/-- 'terrierlaw01.OctetsBack', WHERE WHAT IT READS IS OF BULK AT MOST 1048576: true; the input reads as it did. -/
def octetsBackUptoRow : OpenClaim := { program := "ytleonalpeicjaaa", sum := "b8d1e47cdfc149cd85fb170c70ac9f99987f7a9518e8ccf96760f924b2bc7b82", func := "terrier/terrierlaw01.OctetsBack", spec := "octetsBack", inPlace := ["internal/bytealg.Compare"], apart := false, narrowed := true }
def OctetsBackUptoSaid : Prop := octetsBackUptoRow.holds Try.pinned (OpenSpec.upto octetsBackSpec)

/-- 'terrierlaw01.OctetsRanges', WHERE WHAT IT READS IS OF BULK AT MOST 1048576: true; the input reads as it did. -/
def octetsRangesUptoRow : OpenClaim := { program := "ytleonalpeicjaaa", sum := "b8d1e47cdfc149cd85fb170c70ac9f99987f7a9518e8ccf96760f924b2bc7b82", func := "terrier/terrierlaw01.OctetsRanges", spec := "octetsRanges", inPlace := ["internal/bytealg.Compare"], apart := false, narrowed := true }
def OctetsRangesUptoSaid : Prop := octetsRangesUptoRow.holds Try.pinned (OpenSpec.upto octetsRangesSpec)

/-- 'terrierlaw01.OctetsPrefixes', WHERE WHAT IT READS IS OF BULK AT MOST 1048576: true; the input reads as it did. -/
def octetsPrefixesUptoRow : OpenClaim := { program := "ytleonalpeicjaaa", sum := "b8d1e47cdfc149cd85fb170c70ac9f99987f7a9518e8ccf96760f924b2bc7b82", func := "terrier/terrierlaw01.OctetsPrefixes", spec := "octetsPrefixes", inPlace := ["internal/bytealg.Compare"], apart := false, narrowed := true }
def OctetsPrefixesUptoSaid : Prop := octetsPrefixesUptoRow.holds Try.pinned (OpenSpec.upto octetsPrefixesSpec)

/-- 'terrierlaw01.OctetsStops', WHERE WHAT IT READS IS OF BULK AT MOST 1048576: true; the input reads as it did. -/
def octetsStopsUptoRow : OpenClaim := { program := "ytleonalpeicjaaa", sum := "b8d1e47cdfc149cd85fb170c70ac9f99987f7a9518e8ccf96760f924b2bc7b82", func := "terrier/terrierlaw01.OctetsStops", spec := "octetsStops", apart := false, narrowed := true }
def OctetsStopsUptoSaid : Prop := octetsStopsUptoRow.holds Try.pinned (OpenSpec.upto octetsStopsSpec)

/-- 'terrierlaw01.OctetsTexts', WHERE WHAT IT READS IS OF BULK AT MOST 1048576: true; the input reads as it did. -/
def octetsTextsUptoRow : OpenClaim := { program := "ytleonalpeicjaaa", sum := "b8d1e47cdfc149cd85fb170c70ac9f99987f7a9518e8ccf96760f924b2bc7b82", func := "terrier/terrierlaw01.OctetsTexts", spec := "octetsTexts", apart := false, narrowed := true }
def OctetsTextsUptoSaid : Prop := octetsTextsUptoRow.holds Try.pinned (OpenSpec.upto octetsTextsSpec)

end Rows
end Go.Proofs.Ytleonalpeicjaaa
