/- words.Lines, words.Split, the reference's Lines, Split, Join and Texts: what they compute, in plain words. -/
import Derived.Test.YthneholbmninjaaDoorQx4
import Derived.Test.YthneholbmninjaaDoorPureWords
import Derived.Test.YthneholbmninjaaDoorWordsMore
namespace Go.Proofs.YthneholbmninjaaDoor.Pure
open Go.RowKit Go.Proofs.YthneholbmninjaaDoorW.PrintWords Go.Proofs.YthneholbmninjaaDoor.Ext Go.Proofs.YthneholbmninjaaDoor.Q Go.Proofs.YthneholbmninjaaDoor.Span
set_option linter.unusedVariables false

def VL (r : List (List UInt8) × Nat) : Option (List ByteArray × Int) := some (r.1.map S, (r.2 : Int))
/-! ### words.Lines -/
theorem okLine_iff (c : UInt8) : okLine c = true ↔ c = 10 ∨ (32 ≤ (c.toNat : Int) ∧ (c.toNat : Int) ≤ 126) := by
  unfold okLine
  rw [Bool.or_eq_true, beq_iff_eq, Bool.and_eq_true, decide_eq_true_eq, decide_eq_true_eq]
  constructor
  · rintro (h | h)
    · exact Or.inl h
    · exact Or.inr (by omega)
  · rintro (h | h)
    · exact Or.inl h
    · exact Or.inr (by omega)
theorem is10 (c : UInt8) : ((c.toNat : Int) = 10) ↔ c = 10 := by
  constructor
  · intro h; exact UInt8.toNat_inj.mp (by have : c.toNat = 10 := by omega
                                          exact this)
  · rintro rfl; rfl
theorem suffix_one (l : List UInt8) (c : UInt8) : Lib.hasSuffix l [c] = (l.getLast? == some c) := by
  unfold Lib.hasSuffix
  cases h : (l.getLast? == some c) with
  | true =>
    rw [beq_iff_eq] at h
    obtain ⟨x, rfl⟩ := List.getLast?_eq_some_iff.mp h
    exact List.isSuffixOf_iff_suffix.mpr ⟨x, rfl⟩
  | false =>
    rw [beq_eq_false_iff_ne] at h
    cases hs : [c].isSuffixOf l with
    | false => rfl
    | true =>
      obtain ⟨x, rfl⟩ := List.isSuffixOf_iff_suffix.mp hs
      exact absurd (by simp) h
theorem lines_l0 (x : List UInt8) (hl : x.length < 6000) :
    ∀ m j k : Nat, x.length + 1 - j = m → j ≤ x.length + 1 → m < k → ((x ++ [10]).take j).all okLine = true →
      words_Lines.l0 k (S (x ++ [10])) ((x.length + 1 : Nat) : Int) (j : Int) = if (x ++ [10]).all okLine = true then VL (pieces 10 x, 0) else VL ([], 2) := by
  have hlen : (x ++ [10]).length = x.length + 1 := by rw [List.length_append]; rfl
  intro m
  induction m with
  | zero =>
    intro j k hm hj hk ha
    obtain ⟨k, rfl⟩ : ∃ i, k = i + 1 := ⟨k - 1, by omega⟩
    rw [List.take_of_length_le (by omega)] at ha
    have hw : wrap64 (((x.length + 1 : Nat) : Int) - 1) = (x.length : Int) := by unfold wrap64; omega
    have hsp : strings_Split.f (S x) ⟨#[10]⟩ = some ((pieces 10 x).map S) := by
      unfold strings_Split.f
      rw [S_size, if_pos ⟨by omega, rfl⟩, split_pieces]
    simp only [words_Lines.l0]
    rw [if_neg (by omega), S_size, hlen, hw, if_pos (by omega), if_pos (by omega), Int.toNat_natCast, S_upto, List.take_left' rfl, hsp, Option.bind_some, if_pos ha]
    rfl
  | succ m ih =>
    intro j k hm hj hk ha
    obtain ⟨k, rfl⟩ : ∃ i, k = i + 1 := ⟨k - 1, by omega⟩
    have hjl : j < (x ++ [10]).length := by omega
    have hw := wrapS j (by omega)
    have hstep : okLine ((x ++ [10]).getD j 0) = true → ((x ++ [10]).take (j + 1)).all okLine = true := by
      intro h
      rw [List.take_succ_eq_append_getElem hjl, List.all_append, ha, Bool.true_and]
      rw [List.getD_eq_getElem?_getD, List.getElem?_eq_getElem hjl] at h
      simpa using h
    simp only [words_Lines.l0]
    rw [if_pos (by omega), if_pos (by omega), if_pos (by rw [S_size]; omega), S_bt, hw]
    by_cases h10 : (x ++ [10]).getD j 0 = 10
    · rw [if_pos ((is10 _).mpr h10)]
      exact ih (j + 1) k (by omega) (by omega) (by omega) (hstep (by rw [h10]; rfl))
    · rw [if_neg (fun e => h10 ((is10 _).mp e)), in_f, Option.bind_some]
      by_cases hb : 32 ≤ (((x ++ [10]).getD j 0).toNat : Int) ∧ (((x ++ [10]).getD j 0).toNat : Int) ≤ 126
      · rw [decide_eq_true hb, if_pos rfl]
        exact ih (j + 1) k (by omega) (by omega) (by omega) (hstep ((okLine_iff _).mpr (Or.inr hb)))
      · rw [decide_eq_false hb, if_neg (by decide)]
        have hno : ¬ ((x ++ [10]).all okLine = true) := by
          intro h
          have := List.all_eq_true.mp h _ (List.getElem_mem hjl)
          rw [okLine_iff] at this
          rw [List.getD_eq_getElem?_getD, List.getElem?_eq_getElem hjl] at h10 hb
          rcases this with h' | h'
          · exact h10 h'
          · exact hb h'
        rw [if_neg hno]
        rfl
theorem lines_f (l : List UInt8) (k : Nat) (hk : l.length + 3 < k) : words_Lines.f k (S l) = VL (linesL l) := by
  unfold words_Lines.f linesL
  rw [S_size, Lib.toList_data, S_list]
  by_cases h6 : 6000 < l.length
  · rw [if_pos (by omega), if_pos h6]; rfl
  rw [if_neg (by omega), if_neg h6]
  by_cases h0 : l = []
  · subst h0; rw [if_pos rfl]; rfl
  rw [if_neg h0]
  have hs : strings_HasSuffix.f (S l) ⟨#[10]⟩ = some (l.getLast? == some 10) := by
    unfold strings_HasSuffix.f
    rw [S_size, if_pos (by omega), S_list]
    exact congrArg some (suffix_one l 10)
  rw [hs, Option.bind_some]
  by_cases hx : l.getLast? = some 10
  · rw [hx, beq_self_eq_true, if_pos rfl]
    obtain ⟨x, rfl⟩ := List.getLast?_eq_some_iff.mp hx
    have hlen : (x ++ [10]).length = x.length + 1 := by rw [List.length_append]; rfl
    have h00 := lines_l0 x (by omega) (x.length + 1) 0 k (by omega) (by omega) (by omega) rfl
    rw [hlen]
    refine Eq.trans h00 ?_
    rw [if_pos ((pieces_last 10 _).mpr (Or.inr hx)), pieces_snoc, List.dropLast_concat]
    split <;> rfl
  · have hno : ¬ (pieces 10 l).getLast? = some [] := fun h => by
      rcases (pieces_last 10 _).mp h with h' | h'
      · exact h0 h'
      · exact hx h'
    rw [beq_eq_false_iff_ne.mpr hx, if_neg (by decide), if_neg hno]
    split <;> rfl
end Go.Proofs.YthneholbmninjaaDoor.Pure
