/- strings.Join in the form that the kit's printer gives its own contracts. -/
import Derived.Test.YthneholbmninjaaDoorWordsExt
namespace Go.Proofs.YthneholbmninjaaDoor.Ext
open Go.RowKit Go.Lib Go.Sort Go.Proofs.YthneholbmninjaaDoorW.PrintWords Go.Proofs.YthneholbmninjaaDoor.Span
set_option linter.unusedVariables false

def strings_Join.f (l0 : List ByteArray) (a1 : ByteArray) : Option ByteArray :=
  if l0.length ≤ 1000000 ∧ (Lib.join (l0.map (·.data.toList)) a1.data.toList).length ≤ 100000000 then some ⟨(Lib.join (l0.map (·.data.toList)) a1.data.toList).toArray⟩ else none
theorem strings_Join.calls (A0 : Option Addr) (c0 : Nat) (l0 : List ByteArray) (a1 : ByteArray) (r : ByteArray) (w : World) (hr0 : Kd.C Kd.string w A0 l0.length l0) (hc0 : l0.length ≤ c0) (h : strings_Join.f l0 a1 = some r) :
    Calls Tryd.prog 26 #[.slice A0 l0.length c0, .string a1] w fun e w' => e = .returned (.string r) ∧ Below w.heap.size w w' := by
  unfold strings_Join.f at h
  split at h
  case isFalse => cases h
  rename_i hc
  obtain ⟨h1, h2⟩ := hc
  have hr := Option.some.inj h
  subst hr
  cases hl : l0 with
  | nil =>
    refine (Tryd.strings_Join_none A0 c0 a1 w).mono ?_
    rintro e w' ⟨rfl, rfl⟩
    exact ⟨rfl, Below.refl _ _⟩
  | cons x xs =>
    rw [hl] at hr0 hc0 h1 h2
    obtain ⟨_, _, hcell⟩ := hr0
    obtain ⟨ad, rfl, hcs⟩ := hcell (by simp)
    have hat : ∀ (j : Nat) y, (x :: xs)[j]? = some y → w.cell? (ad.add j) = some (.string y) := by
      intro j y hy
      obtain ⟨c, hclen, hp, hcc⟩ := hcs j y hy
      have hc1 : c = [.string y] := hp
      have := hcc 0 (.string y) (by rw [hc1]; rfl)
      rw [show j * Kd.string.sz + 0 = j by show j * 1 + 0 = j; omega] at this
      exact this
    obtain ⟨bk, o, sp⟩ := ad
    have h0 := hat 0 x rfl
    have hsp : sp = none := by
      cases sp with
      | none => rfl
      | some s =>
        simp only [Addr.add, if_true, World.cell?] at h0
        split at h0
        · simp at h0
        · cases h0
    subst hsp
    have hbk : bk < w.heap.size := World.block_lt_of_cell? w ⟨bk, o, none⟩ (by simpa [Addr.add] using h0)
    refine (Tryd.strings_Join bk o c0 (x :: xs) a1 w (fun j y hy => ?_) hbk (by omega) hc0 (by omega)).mono ?_
    · have := hat j y hy
      unfold Addr.add at this
      split at this
      · rename_i hj; subst hj; exact this
      · exact this
    · rintro e w' ⟨rfl, hb⟩
      exact ⟨rfl, hb⟩
end Go.Proofs.YthneholbmninjaaDoor.Ext
