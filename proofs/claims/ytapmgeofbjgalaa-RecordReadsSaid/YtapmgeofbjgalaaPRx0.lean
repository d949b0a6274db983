-- Written by wip/printx.py, a program of this work over the kit's print, for this claim.
import Derived.Test.YtapmgeofbjgalaaProg
import Derived.Below
import Derived.Deep.Draws
import Derived.Deep.AppendLies
import Derived.Maps.AppendAt
import Derived.OwnWalk
import Derived.Laws.BytesArg
import Derived.Laws.MakeOwn
import Derived.Laws.OwnMore
import Derived.Deep.OwnRows
import Derived.Tactics
import Derived.Lib.ConvBytes
import Derived.Laws.Slices
import Derived.WalkKit
import Derived.KernelRfl
import Derived.RowKit3
import Derived.Deep.LoopGhost
import Derived.Deep.QuietTactic
import Derived.BigQuiet
import Derived.WideLaws
import Derived.Deep.DeepCutAuto
import Derived.Deep.CutBlock
import Derived.Deep.RegionHeld3
import Derived.Laws.Rows
import Derived.Lib.AppendStr
import Derived.ArgAppend
import Derived.Laws.IdiomCopy
import Derived.OrdersHeld
import Derived.Laws.BitsLemmas
import Derived.RowKit
import Derived.Test.YtapmgeofbjgalaaExt
import Derived.Test.YtapmgeofbjgalaaOpen
import Derived.Test.YtapmgeofbjgalaaWWords
import Derived.Test.YtapmgeofbjgalaaWLast
import Derived.Test.YtapmgeofbjgalaaWTab
import Derived.Test.YtapmgeofbjgalaaWFour
import Derived.Test.YtapmgeofbjgalaaWQPut
import Derived.Test.YtapmgeofbjgalaaWApart
import Derived.Test.YtapmgeofbjgalaaWArr
import Derived.Test.YtapmgeofbjgalaaWZeros
import Derived.Test.YtapmgeofbjgalaaWFoot
import Derived.Test.YtapmgeofbjgalaaWKept
import Derived.Test.YtapmgeofbjgalaaWShare
import Derived.Test.YtapmgeofbjgalaaWN
import Derived.Test.YtapmgeofbjgalaaWFootNe
import Derived.Test.YtapmgeofbjgalaaWAt
import Derived.Test.YtapmgeofbjgalaaWEqStruct
import Derived.Test.YtapmgeofbjgalaaWRepsOne
import Derived.Test.YtapmgeofbjgalaaWInv
import Derived.Test.YtapmgeofbjgalaaWInvWords
import Derived.Test.YtapmgeofbjgalaaWGuard
import Derived.Test.YtapmgeofbjgalaaWNEv
import Derived.Test.YtapmgeofbjgalaaWMore
namespace Go.Proofs.Ytapmgeofbjgalaa.PR
open Go.RowKit Go.Proofs.YtapmgeofbjgalaaW.PrintWords Go.Proofs.YtapmgeofbjgalaaW.PrintLast Go.Proofs.YtapmgeofbjgalaaW.PrintMore
attribute [local go_sem] max2_int min2_int max_two min_two max_three min_three max_four min_four   -- for this text's walks alone
attribute [local go_sem] Ext.pick_u8 Ext.pick_u32 Ext.pick_u64
set_option linter.unusedVariables false
set_option linter.unusedSimpArgs false



def errW : Option Int → Value
  | none => .nilIface
  | some c => .iface 0 (.int .i64 c)
theorem errW_none : errW none = .nilIface := rfl
theorem errW_some (c : Int) : errW (some c) = .iface 0 (.int .i64 c) := rfl

theorem info5 : (Try.prog.info? 5).map (fun i => (i.zero, i.size, i.bytes)) = some (some (.int .u8 0), 1, 1) := by kernel_rfl
theorem info22 : (Try.prog.info? 22).map (fun i => (i.zero, i.size, i.bytes)) = some (some (.slice none 0 0), 1, 24) := by kernel_rfl
-- the values' own types

end Go.Proofs.Ytapmgeofbjgalaa.PR
