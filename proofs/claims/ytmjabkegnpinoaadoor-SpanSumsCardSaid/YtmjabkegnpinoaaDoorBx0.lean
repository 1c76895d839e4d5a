/- What Go functions compute, as plain Lean functions, and that the machine comes to just that: written by wip/tools/printx.py (my run of the printer, with contracts of mine beside it). -/
import Derived.Test.YtmjabkegnpinoaaDoorProg
import Derived.Below
import Derived.Deep.Draws
import Derived.Deep.AppendLies
import Derived.Maps.AppendAt
import Derived.OwnWalk
import Derived.Laws.BytesArg
import Derived.Laws.MakeOwn
import Derived.Laws.OwnMore
import Derived.Deep.OwnRows
import Derived.Tactics
import Derived.Lib.ConvBytes
import Derived.Laws.Slices
import Derived.WalkKit
import Derived.KernelRfl
import Derived.RowKit3
import Derived.Deep.LoopGhost
import Derived.Deep.QuietTactic
import Derived.BigQuiet
import Derived.WideLaws
import Derived.Deep.DeepCutAuto
import Derived.Deep.CutBlock
import Derived.Deep.RegionHeld3
import Derived.Laws.Rows
import Derived.Lib.AppendStr
import Derived.ArgAppend
import Derived.Laws.IdiomCopy
import Derived.OrdersHeld
import Derived.Laws.BitsLemmas
import Derived.RowKit
import Derived.Test.YtmjabkegnpinoaaDoorWWords
import Derived.Test.YtmjabkegnpinoaaDoorWLast
import Derived.Test.YtmjabkegnpinoaaDoorWTab
import Derived.Test.YtmjabkegnpinoaaDoorWFour
import Derived.Test.YtmjabkegnpinoaaDoorWQPut
import Derived.Test.YtmjabkegnpinoaaDoorWApart
import Derived.Test.YtmjabkegnpinoaaDoorWArr
import Derived.Test.YtmjabkegnpinoaaDoorWZeros
import Derived.Test.YtmjabkegnpinoaaDoorWFoot
import Derived.Test.YtmjabkegnpinoaaDoorWKept
import Derived.Test.YtmjabkegnpinoaaDoorWShare
import Derived.Test.YtmjabkegnpinoaaDoorWN
import Derived.Test.YtmjabkegnpinoaaDoorWFootNe
import Derived.Test.YtmjabkegnpinoaaDoorWAt
import Derived.Test.YtmjabkegnpinoaaDoorWEqStruct
import Derived.Test.YtmjabkegnpinoaaDoorWRepsOne
import Derived.Test.YtmjabkegnpinoaaDoorWInv
import Derived.Test.YtmjabkegnpinoaaDoorWInvWords
import Derived.Test.YtmjabkegnpinoaaDoorWGuard
import Derived.Test.YtmjabkegnpinoaaDoorWNEv
import Derived.Test.YtmjabkegnpinoaaDoorWMore
import Derived.Test.YtmjabkegnpinoaaDoorExt
namespace Go.Proofs.YtmjabkegnpinoaaDoor.B
open Go.Proofs.YtmjabkegnpinoaaDoor.Ext Go.RowKit Go.Proofs.YtmjabkegnpinoaaDoorW.PrintWords Go.Proofs.YtmjabkegnpinoaaDoorW.PrintLast Go.Proofs.YtmjabkegnpinoaaDoorW.PrintMore
attribute [local go_sem] max2_int min2_int max_two min_two max_three min_three max_four min_four   -- for this text's walks alone
set_option linter.unusedVariables false
set_option linter.unusedSimpArgs false



def errW : Option Int → Value
  | none => .nilIface
  | some c => .iface 0 (.int .i64 c)
theorem errW_none : errW none = .nilIface := rfl
theorem errW_some (c : Int) : errW (some c) = .iface 0 (.int .i64 c) := rfl

theorem info5 : (Tryd.prog.info? 5).map (fun i => (i.zero, i.size, i.bytes)) = some (some (.int .u8 0), 1, 1) := by kernel_rfl
-- the values' own types

end Go.Proofs.YtmjabkegnpinoaaDoor.B
