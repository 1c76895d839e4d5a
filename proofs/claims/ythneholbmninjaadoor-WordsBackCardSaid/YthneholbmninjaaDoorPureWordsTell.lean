/- WordsTell, in plain words: the line that words make, whether a word is a number, a name: the program's answers are the reference's. -/
import Derived.Test.YthneholbmninjaaDoorSx3
import Derived.Test.YthneholbmninjaaDoorPureWordsGlue
namespace Go.Proofs.YthneholbmninjaaDoor.Pure
open Go.RowKit Go.Proofs.YthneholbmninjaaDoorW.PrintWords Go.Proofs.YthneholbmninjaaDoor.Ext Go.Proofs.YthneholbmninjaaDoor.Q Go.Proofs.YthneholbmninjaaDoor.S Go.Proofs.YthneholbmninjaaDoor.Span
set_option linter.unusedVariables false

theorem tell_l0 (xs : List (List UInt8)) (l : List UInt8) (a2 : Int) (hn : xs.length ≤ 60) (hl : l.length ≤ 300) : ∀ m j k : Nat, xs.length - j = m → j ≤ xs.length → (∀ x ∈ xs.take j, x.length ≤ 300) → m + 30000 < k →
    remontoirlaw16_WordsTell.l0 k (xs.map S) (S l) a2 (j : Int) = some true := by
  intro m
  induction m with
  | zero =>
    intro j k hm hj ha hk
    obtain ⟨k, rfl⟩ : ∃ i, k = i + 1 := ⟨k - 1, by omega⟩
    rw [List.take_of_length_le (by omega)] at ha
    have ht : total xs ≤ xs.length * (300 + 1) := total_le xs 300 ha
    have ht2 : xs.length * (300 + 1) ≤ 60 * 301 := Nat.mul_le_mul_right _ hn
    have q1 := wj_f xs (by omega) (by omega) k (by omega)
    have q2 := rj_f xs (by omega) (by omega) k (by omega)
    have q3 := num_f l a2 k (by omega)
    have q4 := rn_f l a2 k (by omega)
    have q5 := wn_f l (by omega) k (by omega)
    have q6 := rnm_f l (by omega) k (by omega)
    have q7 := wakes_ok k (by omega)
    obtain ⟨r, hr⟩ : ∃ r, WJ xs = some r := by unfold WJ; split <;> exact ⟨_, rfl⟩
    simp only [remontoirlaw16_WordsTell.l0]
    rw [List.length_map, if_neg (by omega), q1, q2, q3, q4, q5, q6, q7, hr]
    simp only [Option.bind_some, beq_self_eq_true, Bool.and_self, if_true]
  | succ m ih =>
    intro j k hm hj ha hk
    obtain ⟨k, rfl⟩ : ∃ i, k = i + 1 := ⟨k - 1, by omega⟩
    have hjl : j < xs.length := by omega
    have hrd : rdOf ByteArray.empty (xs.map S) (j : Int) = S xs[j] := by
      rw [rd_at _ _ (by rw [List.length_map]; exact hjl), List.getElem_map]
    have hw := wrapS j (by omega)
    simp only [remontoirlaw16_WordsTell.l0]
    rw [List.length_map, if_pos (by omega), if_pos (by omega), hrd, S_size, hw]
    by_cases h : (xs[j]).length ≤ 300
    · rw [if_neg (by omega)]
      refine ih (j + 1) k (by omega) (by omega) ?_ (by omega)
      intro x hx
      rw [List.take_succ_eq_append_getElem hjl] at hx
      rcases List.mem_append.1 hx with hx | hx
      · exact ha x hx
      · rw [List.mem_singleton.1 hx]; exact h
    · rw [if_pos (by omega), wakes_ok k (by omega)]; rfl
theorem tell (xs : List (List UInt8)) (l : List UInt8) (a2 : Int) : remontoirlaw16_WordsTell.f 40001 (xs.map S) (S l) a2 = some true := by
  have hw := wakes_ok 40000 (by omega)
  have hj : ∀ k, 30 ≤ k → remontoirlaw16_WordsTell.j0 (k + 1) (xs.map S) (S l) a2 true = some true := by
    intro k hk
    simp only [remontoirlaw16_WordsTell.j0]
    rw [if_pos trivial, wakes_ok k hk]; rfl
  unfold remontoirlaw16_WordsTell.f
  rw [List.length_map, S_size]
  by_cases h6 : xs.length ≤ 60
  · rw [if_neg (by omega)]
    by_cases h3 : l.length ≤ 300
    · rw [decide_eq_false (by omega)]
      simp only [remontoirlaw16_WordsTell.j0]
      rw [if_neg (by decide)]
      exact tell_l0 xs l a2 h6 h3 xs.length 0 40000 (by omega) (by omega) (by simp) (by omega)
    · rw [decide_eq_true (by omega)]; exact hj 40000 (by omega)
  · rw [if_pos (by omega)]; exact hj 40000 (by omega)
theorem all_S (l0 : List ByteArray) : ∃ xs : List (List UInt8), l0 = xs.map S :=
  ⟨l0.map (·.data.toList), by
    rw [List.map_map]
    have : (S ∘ fun x : ByteArray => x.data.toList) = id := by funext x; exact S_of x
    rw [this, List.map_id]⟩
theorem tell_walk (A0 : Option Addr) (c0 : Nat) (l0 : List ByteArray) (a1 : ByteArray) (a2 : Int) (w : World) (hr0 : Kd.C Kd.string w A0 l0.length l0) (hc0 : l0.length ≤ c0) (hs : ∀ s ∈ l0, s.size ≤ maxLen) (h1 : a1.size ≤ 140737488351232) (h2 : (Lit.int .i64 a2).wf = true) :
    Calls Tryd.prog 6 #[.slice A0 l0.length c0, .string a1, .int .i64 a2] w fun e w' => e = .returned (.bool true) ∧ Below w.heap.size w w' := by
  obtain ⟨xs, rfl⟩ := all_S l0
  obtain ⟨l, rfl⟩ : ∃ l, a1 = S l := ⟨_, (S_of a1).symm⟩
  exact remontoirlaw16_WordsTell.calls 40001 A0 c0 _ _ a2 true w hr0 hc0 (tell xs l a2)
end Go.Proofs.YthneholbmninjaaDoor.Pure
