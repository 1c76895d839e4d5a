/- SpanParses, in plain words: of every text the length, or the error, is the reference's. -/
import Derived.Test.YtmjabkegnpinoaaDoorQx3
import Derived.Test.YtmjabkegnpinoaaDoorPureSpan
import Derived.Test.YtmjabkegnpinoaaDoorSpanRef
namespace Go.Proofs.YtmjabkegnpinoaaDoor.Pure
open Go.RowKit Go.Proofs.YtmjabkegnpinoaaDoorW.PrintWords Go.Proofs.YtmjabkegnpinoaaDoor.Ext Go.Proofs.YtmjabkegnpinoaaDoor.B Go.Proofs.YtmjabkegnpinoaaDoor.Q Go.Proofs.YtmjabkegnpinoaaDoor.Span
theorem SpanParses : remontoirlaw02_SpanParses.Pure := by
  intro s hs
  obtain ⟨l, rfl⟩ : ∃ l, s = S l := ⟨_, (S_of s).symm⟩
  rw [S_size] at hs
  refine ⟨2 * l.length + 21, ?_⟩
  unfold remontoirlaw02_SpanParses.f
  rw [wakes_ok, parse_at l hs, ref_parse l hs _ (by omega)]
  by_cases h : (((S l).size : Nat) : Int) > 300
  · rw [if_pos h]; rfl
  · rw [if_neg h]
    show (if _ then (if _ then _ else _) else _) = _
    rw [if_pos rfl, if_pos rfl]; rfl
end Go.Proofs.YtmjabkegnpinoaaDoor.Pure
