/- CycleParses, in plain words: of every text the cycle, or the error, is the reference's. -/
import Derived.Test.YtjkdibkgmfnkdaaDoorQx6
import Derived.Test.YtjkdibkgmfnkdaaDoorPureCycle
import Derived.Test.YtjkdibkgmfnkdaaDoorCycRef
namespace Go.Proofs.YtjkdibkgmfnkdaaDoor.Pure
open Go.RowKit Go.Proofs.YtjkdibkgmfnkdaaDoorW.PrintWords Go.Proofs.YtjkdibkgmfnkdaaDoor.Ext Go.Proofs.YtjkdibkgmfnkdaaDoor.B Go.Proofs.YtjkdibkgmfnkdaaDoor.Q Go.Proofs.YtjkdibkgmfnkdaaDoor.Span Go.Proofs.YtjkdibkgmfnkdaaDoor.Cyc
theorem CycleParses : remontoirlaw03_CycleParses.Pure := by
  intro s hs
  obtain ⟨l, rfl⟩ : ∃ l, s = S l := ⟨_, (S_of s).symm⟩
  rw [S_size] at hs
  refine ⟨4 * l.length + 100, ?_⟩
  unfold remontoirlaw03_CycleParses.f
  rw [wakes_ok _ (by omega), cyc_parse l hs _ (by omega), ref_cyc l hs _ (by omega)]
  unfold Cyc.V V3
  simp only [Option.bind_some]
  by_cases h : (((S l).size : Nat) : Int) > 300
  · rw [if_pos h]
  · have hb : ((((cycL l).1 : Nat) : Int) == (((cycL l).1 : Nat) : Int) && ((((cycL l).2.1 : Nat) : Int) == (((cycL l).2.1 : Nat) : Int))) = true := by simp
    rw [if_neg h, hb]
    simp only [if_true]
end Go.Proofs.YtjkdibkgmfnkdaaDoor.Pure
