/- SpanPrints, in plain words: for every number of ticks the printed text and its flag are the reference's. -/
import Derived.Test.YtmjabkegnpinoaaDoorQx3
import Derived.Test.YtmjabkegnpinoaaDoorPureSpan
namespace Go.Proofs.YtmjabkegnpinoaaDoor.Pure
open Go.RowKit Go.Proofs.YtmjabkegnpinoaaDoorW.PrintWords Go.Proofs.YtmjabkegnpinoaaDoor.Ext Go.Proofs.YtmjabkegnpinoaaDoor.B Go.Proofs.YtmjabkegnpinoaaDoor.Q Go.Proofs.YtmjabkegnpinoaaDoor.Span
theorem SpanPrints : remontoirlaw02_SpanPrints.Pure := by
  intro a0 hw
  have hb := wf_u64 hw
  obtain ⟨x, rfl⟩ := Int.eq_ofNat_of_zero_le (show 0 ≤ a0 by omega)
  unfold remontoirlaw02_SpanPrints.f
  rw [print_at x (by omega), rprint_at x (by omega), wakes_ok]
  simp only [Option.bind_some, if_true]
  have e : (decide (x ≤ 1125899906842624) == decide ((x : Int) ≤ 1125899906842624)) = true := by
    rw [beq_iff_eq, decide_eq_decide]; omega
  rw [if_pos e]
end Go.Proofs.YtmjabkegnpinoaaDoor.Pure
