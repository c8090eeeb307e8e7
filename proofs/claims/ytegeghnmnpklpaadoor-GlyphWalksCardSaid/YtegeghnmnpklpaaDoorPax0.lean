-- Laid by a program of this claim's own (wip/tools/mkprint.py, ext.py): walks of the functions that the statements reach.
import Derived.Test.YtegeghnmnpklpaaDoorProg
import Derived.Below
import Derived.Deep.Draws
import Derived.Deep.AppendLies
import Derived.Maps.AppendAt
import Derived.OwnWalk
import Derived.Laws.BytesArg
import Derived.Laws.MakeOwn
import Derived.Laws.OwnMore
import Derived.Deep.OwnRows
import Derived.Tactics
import Derived.Lib.ConvBytes
import Derived.Laws.Slices
import Derived.WalkKit
import Derived.KernelRfl
import Derived.RowKit3
import Derived.Deep.LoopGhost
import Derived.Deep.QuietTactic
import Derived.BigQuiet
import Derived.WideLaws
import Derived.Deep.DeepCutAuto
import Derived.Deep.CutBlock
import Derived.Deep.RegionHeld3
import Derived.Laws.Rows
import Derived.Lib.AppendStr
import Derived.ArgAppend
import Derived.Laws.IdiomCopy
import Derived.OrdersHeld
import Derived.Laws.BitsLemmas
import Derived.RowKit
import Derived.Test.YtegeghnmnpklpaaDoorExtWords
import Derived.Test.YtegeghnmnpklpaaDoorExtTabs
import Derived.Test.YtegeghnmnpklpaaDoorExtDecode
import Derived.Test.YtegeghnmnpklpaaDoorWWords
import Derived.Test.YtegeghnmnpklpaaDoorWLast
import Derived.Test.YtegeghnmnpklpaaDoorWTab
import Derived.Test.YtegeghnmnpklpaaDoorWFour
import Derived.Test.YtegeghnmnpklpaaDoorWQPut
import Derived.Test.YtegeghnmnpklpaaDoorWApart
import Derived.Test.YtegeghnmnpklpaaDoorWArr
import Derived.Test.YtegeghnmnpklpaaDoorWZeros
import Derived.Test.YtegeghnmnpklpaaDoorWFoot
import Derived.Test.YtegeghnmnpklpaaDoorWKept
import Derived.Test.YtegeghnmnpklpaaDoorWShare
import Derived.Test.YtegeghnmnpklpaaDoorWN
import Derived.Test.YtegeghnmnpklpaaDoorWFootNe
import Derived.Test.YtegeghnmnpklpaaDoorWAt
import Derived.Test.YtegeghnmnpklpaaDoorWEqStruct
import Derived.Test.YtegeghnmnpklpaaDoorWRepsOne
import Derived.Test.YtegeghnmnpklpaaDoorWInv
import Derived.Test.YtegeghnmnpklpaaDoorWInvWords
import Derived.Test.YtegeghnmnpklpaaDoorWGuard
import Derived.Test.YtegeghnmnpklpaaDoorWNEv
import Derived.Test.YtegeghnmnpklpaaDoorWMore
namespace Go.Proofs.YtegeghnmnpklpaaDoor.Pa
open Go.RowKit Go.Proofs.YtegeghnmnpklpaaDoor.Ext Go.Proofs.YtegeghnmnpklpaaDoorW.PrintWords Go.Proofs.YtegeghnmnpklpaaDoorW.PrintLast Go.Proofs.YtegeghnmnpklpaaDoorW.PrintMore
attribute [local go_sem] max2_int min2_int max_two min_two max_three min_three max_four min_four   -- for this text's walks alone
set_option linter.unusedVariables false
set_option linter.unusedSimpArgs false



def errW : Option Int → Value
  | none => .nilIface
  | some c => .iface 0 (.int .i64 c)
theorem errW_none : errW none = .nilIface := rfl
theorem errW_some (c : Int) : errW (some c) = .iface 0 (.int .i64 c) := rfl

theorem info3 : (Tryd.prog.info? 3).map (fun i => (i.zero, i.size, i.bytes)) = some (some (.int .i64 0), 1, 8) := by kernel_rfl
theorem info5 : (Tryd.prog.info? 5).map (fun i => (i.zero, i.size, i.bytes)) = some (some (.int .u8 0), 1, 1) := by kernel_rfl
-- the values' own types

end Go.Proofs.YtegeghnmnpklpaaDoor.Pa
