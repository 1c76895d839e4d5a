/- span.Parse and span.Print, in the form that the kit's printer gives its own contracts. -/
import Derived.Test.YtmjabkegnpinoaaDoorSpanParse
import Derived.Test.YtmjabkegnpinoaaDoorSpanPrint
import Derived.Test.YtmjabkegnpinoaaDoorRefAdd
namespace Go.Proofs.YtmjabkegnpinoaaDoor.Ext
open Go.RowKit Go.Proofs.YtmjabkegnpinoaaDoorW.PrintWords Go.Proofs.YtmjabkegnpinoaaDoor.Span

def span_Parse.f (a0 : ByteArray) : Option (Int × Int) := if a0.size ≤ 140737488351232 then some (((parseL a0.data.toList).1 : Int), ((parseL a0.data.toList).2 : Int)) else none
theorem span_Parse.calls (a0 : ByteArray) (r1 r2 : Int) (w : World) (h : span_Parse.f a0 = some (r1, r2)) :
    Calls Tryd.prog 10 #[.string a0] w fun e w' => e = .returned (.tuple #[.int .u64 r1, .int .i64 r2]) ∧ Below w.heap.size w w' := by
  unfold span_Parse.f at h
  split at h
  case isFalse => cases h
  rename_i hc
  cases h
  have := parse_calls a0.data.toList (by rw [Lib.size_eq] at hc; exact hc) w
  rw [S_of] at this
  exact this
def span_Print.f (a0 : Int) : Option (ByteArray × Bool) := if 0 ≤ a0 ∧ a0 < 18446744073709551616 then some (S (printL a0.toNat), decide (a0.toNat ≤ 1125899906842624)) else none
theorem span_Print.calls (a0 : Int) (r1 : ByteArray) (r2 : Bool) (w : World) (hTab : Tab w) (h : span_Print.f a0 = some (r1, r2)) :
    Calls Tryd.prog 12 #[.int .u64 a0] w fun e w' => e = .returned (.tuple #[.string r1, .bool r2]) ∧ Below w.heap.size w w' := by
  unfold span_Print.f at h
  split at h
  case isFalse => cases h
  rename_i hc
  obtain ⟨h0, _⟩ := hc
  obtain ⟨x, rfl⟩ := Int.eq_ofNat_of_zero_le h0
  cases h
  exact print_calls x w hTab
end Go.Proofs.YtmjabkegnpinoaaDoor.Ext
