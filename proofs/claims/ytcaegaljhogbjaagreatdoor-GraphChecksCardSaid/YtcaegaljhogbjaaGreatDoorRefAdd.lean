/- The reference's add, at the five units that it is called with: so many units more, up to one above the greatest. -/
import Derived.Test.YtcaegaljhogbjaaGreatDoorExt
namespace Go.Proofs.YtcaegaljhogbjaaGreatDoor.Ext
open Go.RowKit Go.Proofs.YtcaegaljhogbjaaGreatDoorW.PrintWords Go.Proofs.YtcaegaljhogbjaaGreatDoorW.PrintMore
attribute [local go_sem] max2_int min2_int max_two min_two
set_option linter.unusedVariables false

def addI (a0 a1 a2 : Int) : Int := if a1 > 1125899906842624 / a2 then 1125899906842625 else if a0 + a1 * a2 ≤ 1125899906842625 then a0 + a1 * a2 else 1125899906842625
def zat.f (a0 a1 a2 : Int) : Option Int :=
  if 0 ≤ a0 ∧ a0 ≤ 1125899906842625 ∧ 0 ≤ a1 ∧ a1 < 18446744073709551616 ∧ (a2 = 604800 ∨ a2 = 86400 ∨ a2 = 3600 ∨ a2 = 60 ∨ a2 = 1) then some (addI a0 a1 a2) else none
theorem zat.calls (a0 a1 a2 r : Int) (w : World) (h : zat.f a0 a1 a2 = some r) :
    Calls Tryz.prog 111 #[.int .u64 a0, .int .u64 a1, .int .u64 a2] w fun e w' => e = .returned (.int .u64 r) ∧ Drawn0 w w' := by
  unfold zat.f at h
  split at h
  case isFalse => cases h
  rename_i hc
  obtain ⟨h0, h1, h2, h3, hu⟩ := hc
  obtain rfl := Option.some.inj h
  clear h
  unfold addI
  rcases hu with rfl | rfl | rfl | rfl | rfl
  all_goals
    split
    · go_enter Tryz.func111, Tryz.ntmps111
      go_wp2
      go_ret
      exact ⟨rfl, Drawn0.refl _⟩
    · split
      · go_enter Tryz.func111, Tryz.ntmps111
        go_wp2
        go_ret
        exact ⟨rfl, Drawn0.refl _⟩
      · go_enter Tryz.func111, Tryz.ntmps111
        go_wp2
        go_ret
        exact ⟨rfl, Drawn0.refl _⟩
end Go.Proofs.YtcaegaljhogbjaaGreatDoor.Ext
