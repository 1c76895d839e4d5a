/- What Go functions compute, as plain Lean functions, and that the machine comes to just that: written by wip/tools/printx.py (my run of the printer, with contracts of mine beside it). -/
import Derived.Test.YtjkdibkgmfnkdaaDoorProg
import Derived.Below
import Derived.Deep.Draws
import Derived.Deep.AppendLies
import Derived.Maps.AppendAt
import Derived.OwnWalk
import Derived.Laws.BytesArg
import Derived.Laws.MakeOwn
import Derived.Laws.OwnMore
import Derived.Deep.OwnRows
import Derived.Tactics
import Derived.Lib.ConvBytes
import Derived.Laws.Slices
import Derived.WalkKit
import Derived.KernelRfl
import Derived.RowKit3
import Derived.Deep.LoopGhost
import Derived.Deep.QuietTactic
import Derived.BigQuiet
import Derived.WideLaws
import Derived.Deep.DeepCutAuto
import Derived.Deep.CutBlock
import Derived.Deep.RegionHeld3
import Derived.Laws.Rows
import Derived.Lib.AppendStr
import Derived.ArgAppend
import Derived.Laws.IdiomCopy
import Derived.OrdersHeld
import Derived.Laws.BitsLemmas
import Derived.RowKit
import Derived.Test.YtjkdibkgmfnkdaaDoorWWords
import Derived.Test.YtjkdibkgmfnkdaaDoorWLast
import Derived.Test.YtjkdibkgmfnkdaaDoorWTab
import Derived.Test.YtjkdibkgmfnkdaaDoorWFour
import Derived.Test.YtjkdibkgmfnkdaaDoorWQPut
import Derived.Test.YtjkdibkgmfnkdaaDoorWApart
import Derived.Test.YtjkdibkgmfnkdaaDoorWArr
import Derived.Test.YtjkdibkgmfnkdaaDoorWZeros
import Derived.Test.YtjkdibkgmfnkdaaDoorWFoot
import Derived.Test.YtjkdibkgmfnkdaaDoorWKept
import Derived.Test.YtjkdibkgmfnkdaaDoorWShare
import Derived.Test.YtjkdibkgmfnkdaaDoorWN
import Derived.Test.YtjkdibkgmfnkdaaDoorWFootNe
import Derived.Test.YtjkdibkgmfnkdaaDoorWAt
import Derived.Test.YtjkdibkgmfnkdaaDoorWEqStruct
import Derived.Test.YtjkdibkgmfnkdaaDoorWRepsOne
import Derived.Test.YtjkdibkgmfnkdaaDoorWInv
import Derived.Test.YtjkdibkgmfnkdaaDoorWInvWords
import Derived.Test.YtjkdibkgmfnkdaaDoorWGuard
import Derived.Test.YtjkdibkgmfnkdaaDoorWNEv
import Derived.Test.YtjkdibkgmfnkdaaDoorWMore
import Derived.Test.YtjkdibkgmfnkdaaDoorExtSpan
import Derived.Test.YtjkdibkgmfnkdaaDoorRefDigits
import Derived.Test.YtjkdibkgmfnkdaaDoorExtStr
namespace Go.Proofs.YtjkdibkgmfnkdaaDoor.Q
open Go.Proofs.YtjkdibkgmfnkdaaDoor.Ext Go.Proofs.YtjkdibkgmfnkdaaDoor.B Go.RowKit Go.Proofs.YtjkdibkgmfnkdaaDoorW.PrintWords Go.Proofs.YtjkdibkgmfnkdaaDoorW.PrintLast Go.Proofs.YtjkdibkgmfnkdaaDoorW.PrintMore
attribute [local go_sem] max2_int min2_int max_two min_two max_three min_three max_four min_four   -- for this text's walks alone
set_option linter.unusedVariables false
set_option linter.unusedSimpArgs false



def errW : Option Int → Value
  | none => .nilIface
  | some c => .iface 0 (.int .i64 c)
theorem errW_none : errW none = .nilIface := rfl
theorem errW_some (c : Int) : errW (some c) = .iface 0 (.int .i64 c) := rfl

theorem info23 : (Tryd.prog.info? 23).map (fun i => (i.zero, i.size, i.bytes)) = some (some (.int .u64 0), 1, 8) := by kernel_rfl
-- the values' own types

end Go.Proofs.YtjkdibkgmfnkdaaDoor.Q
