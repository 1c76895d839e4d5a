/- def.node's plain function: more rounds do no harm. -/
import Derived.Test.YtpalncojmknlbaaDoorDefNode
namespace Go.Proofs.YtpalncojmknlbaaDoor.Ext
open Go.RowKit Go.Lib Go.Proofs.YtpalncojmknlbaaDoorW.PrintWords Go.Proofs.YtpalncojmknlbaaDoor.A Go.Proofs.YtpalncojmknlbaaDoor.Span
set_option linter.unusedVariables false

theorem nodeNums.mono (kd : Int) (tm : ByteArray) (l : List ByteArray) (k : Nat) : LeO (nodeNums k kd tm l) (nodeNums (k + 1) kd tm l) := by
  unfold nodeNums
  refine LeO.ite ?_ ?_
  · split
    · refine LeO.bind (words_Number.mono _ _ _) (fun _ => LeO.ite (LeO.bind (words_Number.mono _ _ _) (fun _ => LeO.refl _)) (LeO.refl _))
    · exact LeO.refl _
  · split
    · exact LeO.bind (words_Number.mono _ _ _) (fun _ => LeO.refl _)
    · exact LeO.refl _
theorem def_node.mono (a0 : ByteArray) (k : Nat) : LeO (def_node.f k a0) (def_node.f (k + 1) a0) := by
  unfold def_node.f
  refine LeO.bind (LeO.refl _) (fun r => LeO.ite ?_ (LeO.refl _))
  split
  · exact LeO.refl _
  · refine LeO.ite ?_ (LeO.refl _)
    unfold nodeWords
    exact LeO.ite (LeO.ite (LeO.refl _) (nodeNums.mono _ _ _ k)) (nodeNums.mono _ _ _ k)
end Go.Proofs.YtpalncojmknlbaaDoor.Ext
