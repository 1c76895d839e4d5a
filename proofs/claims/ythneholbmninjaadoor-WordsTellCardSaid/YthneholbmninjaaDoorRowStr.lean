/- A parameter that is a slice of strings, in a law's row: what its reading gives the walk. -/
import Derived.Test.YthneholbmninjaaDoorWMore
import Derived.Test.YthneholbmninjaaDoorWWords
import Derived.SliceStrings
import Derived.WalkKit
import Derived.ProofKit
import Derived.ChangeAt
import Derived.Carry
namespace Go.Proofs.YthneholbmninjaaDoor.Row
open Go.ChangeShapes Go.WideShapes Go.ChangeAt Go.RowKit Go.Proofs.YthneholbmninjaaDoorW.PrintWords
set_option linter.unusedVariables false
theorem open_strs {H : Type} {enc : TypeId × Value → H} {P : Program} {w : World} {base : Nat} {spare : Nat → Bool} {held : Bool} {t e : TypeId} {fuel : Nat} {A : Option Addr} {len cap : Nat} {x : DataW H × List MemPlace} (ht : P.underlying t = some (.slice e)) (he : P.underlying e = some .string) (hc : P.cellsOf e = 1)
    (h : DataW.trod enc P w base spare held fuel t [.slice A len cap] = some x) : ∃ l : List ByteArray, len = l.length ∧ l.length ≤ cap ∧ Kd.C Kd.string w A l.length l ∧ ∀ s ∈ l, s.size ≤ maxLen := by
  rcases open_strings ht he hc h with ⟨hcs, hx⟩ | ⟨a, len', cap', zs, hcs, _, hl, hm, hz, hx, hcell, hwz⟩
  · simp at hcs
    obtain ⟨rfl, rfl, rfl⟩ := hcs
    exact ⟨[], rfl, Nat.zero_le _, ⟨rfl, by simp, fun h => absurd h (by simp)⟩, by simp⟩
  · simp at hcs
    obtain ⟨rfl, rfl, rfl⟩ := hcs
    have hle : len ≤ zs.length := by rw [hz]; split <;> omega
    have hlen : (zs.take len).length = len := by rw [List.length_take]; omega
    refine ⟨zs.take len, hlen.symm, by omega, ⟨rfl, by rw [hlen]; unfold maxLen at hm; omega, fun _ => ⟨a, rfl, fun j p hj => ?_⟩⟩, fun s hs => hwz s (List.mem_of_mem_take hs)⟩
    have hjl : j < len := by
      have := (List.getElem?_eq_some_iff.1 hj).1
      omega
    refine ⟨[.string p], rfl, rfl, fun i u hi => ?_⟩
    cases i with
    | zero =>
      have hu : u = .string p := (Option.some.inj hi).symm
      subst hu
      show w.cell? (a.add (j * 1 + 0)) = _
      rw [Nat.mul_one, Nat.add_zero, hcell j (by omega)]
      have : zs.getD j ByteArray.empty = p := by
        rw [List.getElem?_take] at hj
        rw [if_pos hjl] at hj
        rw [List.getD_eq_getElem?_getD, hj]; rfl
      rw [this]
    | succ i => simp at hi
end Go.Proofs.YthneholbmninjaaDoor.Row
