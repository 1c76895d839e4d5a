/- span.Parse, in the form that the kit's printer gives its own contracts. -/
import Derived.Test.YtcaegaljhogbjaaGreatDoorSpanParse
import Derived.Test.YtcaegaljhogbjaaGreatDoorRefAdd
namespace Go.Proofs.YtcaegaljhogbjaaGreatDoor.Ext
open Go.RowKit Go.Proofs.YtcaegaljhogbjaaGreatDoorW.PrintWords Go.Proofs.YtcaegaljhogbjaaGreatDoor.Span

def zbx.f (a0 : ByteArray) : Option (Int × Int) := if a0.size ≤ 140737488351232 then some (((parseL a0.data.toList).1 : Int), ((parseL a0.data.toList).2 : Int)) else none
theorem zbx.calls (a0 : ByteArray) (r1 r2 : Int) (w : World) (h : zbx.f a0 = some (r1, r2)) :
    Calls Tryz.prog 57 #[.string a0] w fun e w' => e = .returned (.tuple #[.int .u64 r1, .int .i64 r2]) ∧ Below w.heap.size w w' := by
  unfold zbx.f at h
  split at h
  case isFalse => cases h
  rename_i hc
  cases h
  have := parse_calls a0.data.toList (by rw [Lib.size_eq] at hc; exact hc) w
  rw [S_of] at this
  exact this
end Go.Proofs.YtcaegaljhogbjaaGreatDoor.Ext
