/- What a cycle's text means, as plain functions; how a text falls apart at its first slash. No machine in sight. -/
import Derived.Test.YtjkdibkgmfnkdaaDoorExtStr
import Derived.Test.YtjkdibkgmfnkdaaDoorSpanCutLaws
namespace Go.Proofs.YtjkdibkgmfnkdaaDoor.Cyc
open Go.Proofs.YtjkdibkgmfnkdaaDoor.Span Go.Proofs.YtjkdibkgmfnkdaaDoor.Ext
set_option linter.unusedVariables false

def tailC (n : Nat) (q : List UInt8) : Nat × Nat × Nat :=
  if (parseL q).2 = 0 then (if (parseL q).1 = 0 then (0, 0, 6) else (n, (parseL q).1, 0)) else (0, 0, (parseL q).2)
def cycR (r : List UInt8) : Nat × Nat × Nat :=
  if r.head? = some 47 then (0, 0, 5)
  else if nD r < 1 ∨ 7 < nD r ∨ r.getD 0 0 = 48 ∨ nD r = r.length ∨ r.getD (nD r) 0 ≠ 47 then (0, 0, 2)
  else if 1000000 < val (r.take (nD r)) then (0, 0, 3)
  else tailC (val (r.take (nD r))) (r.drop (nD r + 1))
def cycL (l : List UInt8) : Nat × Nat × Nat :=
  match l with
  | 82 :: r => cycR r
  | _ => (0, 0, 2)
theorem cyc_R (r : List UInt8) : cycL (82 :: r) = cycR r := rfl
theorem cyc_no (l : List UInt8) (h : ¬ l.head? = some 82) : cycL l = (0, 0, 2) := by
  unfold cycL
  split
  · exact absurd rfl h
  · rfl
/-- At the first slash. -/
theorem cut_yes' (l : List UInt8) (c : UInt8) (h : (cutV l c).2.2 = true) : l = (cutV l c).1 ++ c :: (cutV l c).2.1 ∧ ∀ d ∈ (cutV l c).1, d ≠ c := by
  unfold cutV at *
  by_cases hn : Lib.indexByte l c < 0
  · rw [if_pos hn] at h; cases h
  · rw [if_neg hn]
    have hge := Lib.indexByte_ge l c
    obtain ⟨k, hk⟩ := Int.eq_ofNat_of_zero_le (show 0 ≤ Lib.indexByte l c by omega)
    have hlt := index_lt _ _ _ hk
    obtain ⟨h1, h2⟩ := Lib.indexByte_some hk
    rw [hk, Int.toNat_natCast]
    dsimp only
    constructor
    · have : l.drop k = c :: l.drop (k + 1) := by
        rw [List.drop_eq_getElem_cons hlt]
        congr 1
        rw [List.getElem?_eq_getElem hlt] at h1
        exact Option.some.inj h1
      rw [← this, List.take_append_drop]
    · intro d hd e
      obtain ⟨j, hj, hjd⟩ := List.mem_take_iff_getElem.mp hd
      apply h2 j (by omega)
      rw [List.getElem?_eq_getElem (by omega), hjd, e]
theorem cut_no' (l : List UInt8) (c : UInt8) (h : (cutV l c).2.2 = false) : (cutV l c).1 = l ∧ ∀ d ∈ l, d ≠ c := by
  unfold cutV at *
  by_cases hn : Lib.indexByte l c < 0
  · rw [if_pos hn]
    have hge := Lib.indexByte_ge l c
    have hi : Lib.indexByte l c = -1 := by omega
    refine ⟨rfl, fun d hd e => ?_⟩
    obtain ⟨j, hj, hjd⟩ := List.mem_iff_getElem.mp hd
    apply Lib.indexByte_none hi j
    rw [List.getElem?_eq_getElem hj, hjd, e]
  · rw [if_neg hn] at h; cases h
theorem nD_all (l : List UInt8) (h : ∀ c ∈ l, isD c = true) : nD l = l.length := by
  induction l with
  | nil => rfl
  | cons c l ih => rw [nD, if_pos (h c (by simp)), ih (fun d hd => h d (by simp [hd])), List.length_cons]
theorem nD_lt_of (l : List UInt8) (h : ¬ ∀ c ∈ l, isD c = true) : nD l < l.length := by
  induction l with
  | nil => exact absurd (by simp) h
  | cons c l ih =>
    by_cases hc : isD c = true
    · rw [nD, if_pos hc, List.length_cons]
      have := ih (fun h' => h (by intro d hd; rcases List.mem_cons.mp hd with rfl | hd; exact hc; exact h' d hd))
      omega
    · rw [nD, if_neg hc, List.length_cons]; omega
theorem getD_mem (l : List UInt8) (j : Nat) (h : j < l.length) : l.getD j 0 ∈ l := by
  rw [List.getD_eq_getElem?_getD, List.getElem?_eq_getElem h]; exact List.getElem_mem h
/-- Not all digits ahead of the slash (or no slash): no cycle. -/
theorem cyc_bad (r num : List UInt8) (q : List UInt8) (hr : r = num ++ q) (hq : q = [] ∨ ∃ t, q = 47 :: t) (hs : ∀ d ∈ num, d ≠ 47) (hnd : ¬ ∀ c ∈ num, isD c = true) : cycR r = (0, 0, 2) := by
  have hlt := nD_lt_of num hnd
  have hD : nD r = nD num := by rw [hr]; exact nD_append num q hlt
  have hg : r.getD (nD r) 0 = num.getD (nD num) 0 := by
    rw [hD, hr, List.getD_eq_getElem?_getD, List.getD_eq_getElem?_getD, List.getElem?_append_left hlt]
  have hne : r.getD (nD r) 0 ≠ 47 := by rw [hg]; exact hs _ (getD_mem num _ hlt)
  unfold cycR
  rw [if_neg, if_pos (Or.inr (Or.inr (Or.inr (Or.inr hne))))]
  intro e
  cases num with
  | nil => simp at hlt
  | cons d num =>
    rw [hr] at e
    exact hs d (by simp) (Option.some.inj e)
end Go.Proofs.YtjkdibkgmfnkdaaDoor.Cyc
