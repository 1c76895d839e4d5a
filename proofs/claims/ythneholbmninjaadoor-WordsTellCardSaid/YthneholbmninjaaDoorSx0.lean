/- What Go functions compute, as plain Lean functions, and that the machine comes to just that: written by wip/tools/printx.py (my run of the printer, with contracts of mine beside it). -/
import Derived.Test.YthneholbmninjaaDoorProg
import Derived.Below
import Derived.Deep.Draws
import Derived.Deep.AppendLies
import Derived.Maps.AppendAt
import Derived.OwnWalk
import Derived.Laws.BytesArg
import Derived.Laws.MakeOwn
import Derived.Laws.OwnMore
import Derived.Deep.OwnRows
import Derived.Tactics
import Derived.Lib.ConvBytes
import Derived.Laws.Slices
import Derived.WalkKit
import Derived.KernelRfl
import Derived.RowKit3
import Derived.Deep.LoopGhost
import Derived.Deep.QuietTactic
import Derived.BigQuiet
import Derived.WideLaws
import Derived.Deep.DeepCutAuto
import Derived.Deep.CutBlock
import Derived.Deep.RegionHeld3
import Derived.Laws.Rows
import Derived.Lib.AppendStr
import Derived.ArgAppend
import Derived.Laws.IdiomCopy
import Derived.OrdersHeld
import Derived.Laws.BitsLemmas
import Derived.RowKit
import Derived.Test.YthneholbmninjaaDoorWWords
import Derived.Test.YthneholbmninjaaDoorWLast
import Derived.Test.YthneholbmninjaaDoorWTab
import Derived.Test.YthneholbmninjaaDoorWFour
import Derived.Test.YthneholbmninjaaDoorWQPut
import Derived.Test.YthneholbmninjaaDoorWApart
import Derived.Test.YthneholbmninjaaDoorWArr
import Derived.Test.YthneholbmninjaaDoorWZeros
import Derived.Test.YthneholbmninjaaDoorWFoot
import Derived.Test.YthneholbmninjaaDoorWKept
import Derived.Test.YthneholbmninjaaDoorWShare
import Derived.Test.YthneholbmninjaaDoorWN
import Derived.Test.YthneholbmninjaaDoorWFootNe
import Derived.Test.YthneholbmninjaaDoorWAt
import Derived.Test.YthneholbmninjaaDoorWEqStruct
import Derived.Test.YthneholbmninjaaDoorWRepsOne
import Derived.Test.YthneholbmninjaaDoorWInv
import Derived.Test.YthneholbmninjaaDoorWInvWords
import Derived.Test.YthneholbmninjaaDoorWGuard
import Derived.Test.YthneholbmninjaaDoorWNEv
import Derived.Test.YthneholbmninjaaDoorWMore
import Derived.Test.YthneholbmninjaaDoorQx4
import Derived.Test.YthneholbmninjaaDoorWordsJoin
namespace Go.Proofs.YthneholbmninjaaDoor.S
open Go.Proofs.YthneholbmninjaaDoor.Ext Go.Proofs.YthneholbmninjaaDoor.Q Go.RowKit Go.Proofs.YthneholbmninjaaDoorW.PrintWords Go.Proofs.YthneholbmninjaaDoorW.PrintLast Go.Proofs.YthneholbmninjaaDoorW.PrintMore
attribute [local go_sem] max2_int min2_int max_two min_two max_three min_three max_four min_four   -- for this text's walks alone
set_option linter.unusedVariables false
set_option linter.unusedSimpArgs false



def errW : Option Int → Value
  | none => .nilIface
  | some c => .iface 0 (.int .i64 c)
theorem errW_none : errW none = .nilIface := rfl
theorem errW_some (c : Int) : errW (some c) = .iface 0 (.int .i64 c) := rfl

-- the values' own types

end Go.Proofs.YthneholbmninjaaDoor.S
