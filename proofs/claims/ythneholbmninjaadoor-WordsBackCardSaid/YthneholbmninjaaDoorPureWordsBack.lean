/- WordsBack, in plain words: words that make a line are its words; the words of a line make it again. -/
import Derived.Test.YthneholbmninjaaDoorSx3
import Derived.Test.YthneholbmninjaaDoorPureWordsTell
namespace Go.Proofs.YthneholbmninjaaDoor.Pure
open Go.RowKit Go.Proofs.YthneholbmninjaaDoorW.PrintWords Go.Proofs.YthneholbmninjaaDoor.Ext Go.Proofs.YthneholbmninjaaDoor.Q Go.Proofs.YthneholbmninjaaDoor.S Go.Proofs.YthneholbmninjaaDoor.Span
set_option linter.unusedVariables false

theorem back_j2 (l : List UInt8) (hl : l.length ≤ 2000) (k : Nat) (hk : 10000 < k) : remontoirlaw16_WordsBack.j2 k (S l) = some true := by
  obtain ⟨k, rfl⟩ : ∃ i, k = i + 1 := ⟨k - 1, by omega⟩
  have hw := wakes_ok k (by omega)
  simp only [remontoirlaw16_WordsBack.j2]
  rw [split_f l (by omega), Option.bind_some]
  unfold wordsL
  by_cases h : (pieces 32 l).all okW = true
  · have ht := total_pieces 32 l
    have hlt := length_total (pieces 32 l)
    have hp : 0 < (pieces 32 l).length := List.length_pos_iff.mpr (pieces_ne 32 l)
    have q := wj_f (pieces 32 l) (by omega) (by omega) k (by omega)
    unfold WJ at q
    rw [if_pos h, join_pieces, decide_eq_true hp] at q
    rw [if_pos h]
    dsimp only
    rw [if_pos rfl, q, Option.bind_some]
    dsimp only
    rw [if_pos rfl, if_pos rfl, List.length_map, if_pos (by omega), hw]; rfl
  · rw [if_neg h]
    dsimp only
    rw [if_neg (by decide), hw]; rfl
theorem back_l0 (xs : List (List UInt8)) (l : List UInt8) (hn : xs.length ≤ 60) (hl : l.length ≤ 2000) : ∀ m j k : Nat, xs.length - j = m → j ≤ xs.length → (∀ x ∈ xs.take j, x.length ≤ 300) → m + 30000 < k →
    remontoirlaw16_WordsBack.l0 k (xs.map S) (S l) (j : Int) = some true := by
  intro m
  induction m with
  | zero =>
    intro j k hm hj ha hk
    obtain ⟨k, rfl⟩ : ∃ i, k = i + 1 := ⟨k - 1, by omega⟩
    rw [List.take_of_length_le (by omega)] at ha
    have ht : total xs ≤ xs.length * (300 + 1) := total_le xs 300 ha
    have ht2 : xs.length * (300 + 1) ≤ 60 * 301 := Nat.mul_le_mul_right _ hn
    have hlj := total_join xs
    have q1 := wj_f xs (by omega) (by omega) k (by omega)
    have q2 := back_j2 l hl k (by omega)
    unfold WJ at q1
    simp only [remontoirlaw16_WordsBack.l0]
    rw [List.length_map, if_neg (by omega), q1]
    by_cases h : xs.all okW = true
    · rw [if_pos h, Option.bind_some]
      dsimp only
      by_cases h0 : 0 < xs.length
      · have hp := pieces_join xs (List.length_pos_iff.mp h0) (okW_no32 xs h)
        rw [decide_eq_true h0, if_pos rfl, split_f _ (by omega), Option.bind_some]
        unfold wordsL
        rw [hp, if_pos h]
        dsimp only
        rw [if_pos rfl, texts_f _ _ (by rw [List.length_map]; omega) k (by rw [List.length_map]; omega), Option.bind_some, decide_eq_true rfl, if_pos rfl, q2]
      · rw [decide_eq_false h0, if_neg (by decide), q2]
    · rw [if_neg h, Option.bind_some]
      dsimp only
      rw [if_neg (by decide), q2]
  | succ m ih =>
    intro j k hm hj ha hk
    obtain ⟨k, rfl⟩ : ∃ i, k = i + 1 := ⟨k - 1, by omega⟩
    have hjl : j < xs.length := by omega
    have hrd : rdOf ByteArray.empty (xs.map S) (j : Int) = S xs[j] := by
      rw [rd_at _ _ (by rw [List.length_map]; exact hjl), List.getElem_map]
    have hw := wrapS j (by omega)
    simp only [remontoirlaw16_WordsBack.l0]
    rw [List.length_map, if_pos (by omega), if_pos (by omega), hrd, S_size, hw]
    by_cases h : (xs[j]).length ≤ 300
    · rw [if_neg (by omega)]
      refine ih (j + 1) k (by omega) (by omega) ?_ (by omega)
      intro x hx
      rw [List.take_succ_eq_append_getElem hjl] at hx
      rcases List.mem_append.1 hx with hx | hx
      · exact ha x hx
      · rw [List.mem_singleton.1 hx]; exact h
    · rw [if_pos (by omega), wakes_ok k (by omega)]; rfl
theorem back (xs : List (List UInt8)) (l : List UInt8) : remontoirlaw16_WordsBack.f 40001 (xs.map S) (S l) = some true := by
  have hj : ∀ k, 30 ≤ k → remontoirlaw16_WordsBack.j0 (k + 1) (xs.map S) (S l) true = some true := by
    intro k hk
    simp only [remontoirlaw16_WordsBack.j0]
    rw [if_pos trivial, wakes_ok k hk]; rfl
  unfold remontoirlaw16_WordsBack.f
  rw [List.length_map, S_size]
  by_cases h6 : xs.length ≤ 60
  · rw [if_neg (by omega)]
    by_cases h3 : l.length ≤ 2000
    · rw [decide_eq_false (by omega)]
      simp only [remontoirlaw16_WordsBack.j0]
      rw [if_neg (by decide)]
      exact back_l0 xs l h6 h3 xs.length 0 40000 (by omega) (by omega) (by simp) (by omega)
    · rw [decide_eq_true (by omega)]; exact hj 40000 (by omega)
  · rw [if_pos (by omega)]; exact hj 40000 (by omega)
theorem back_walk (A0 : Option Addr) (c0 : Nat) (l0 : List ByteArray) (a1 : ByteArray) (w : World) (hr0 : Kd.C Kd.string w A0 l0.length l0) (hc0 : l0.length ≤ c0) (hs : ∀ s ∈ l0, s.size ≤ maxLen) (h1 : a1.size ≤ 140737488351232) :
    Calls Tryd.prog 7 #[.slice A0 l0.length c0, .string a1] w fun e w' => e = .returned (.bool true) ∧ Below w.heap.size w w' := by
  obtain ⟨xs, rfl⟩ := all_S l0
  obtain ⟨l, rfl⟩ : ∃ l, a1 = S l := ⟨_, (S_of a1).symm⟩
  exact remontoirlaw16_WordsBack.calls 40001 A0 c0 _ _ true w hr0 hc0 (back xs l)
end Go.Proofs.YthneholbmninjaaDoor.Pure
