/- SpanCuts, in plain words: a beginning of a duration that is one lasts no longer; with P, a blank, itself behind it, or a blank, a minus ahead, a duration is none. -/
import Derived.Test.YtmjabkegnpinoaaDoorQx3
import Derived.Test.YtmjabkegnpinoaaDoorPureSpan
import Derived.Test.YtmjabkegnpinoaaDoorSpanCutLaws
namespace Go.Proofs.YtmjabkegnpinoaaDoor.Pure
open Go.RowKit Go.Proofs.YtmjabkegnpinoaaDoorW.PrintWords Go.Proofs.YtmjabkegnpinoaaDoor.Ext Go.Proofs.YtmjabkegnpinoaaDoor.B Go.Proofs.YtmjabkegnpinoaaDoor.Q Go.Proofs.YtmjabkegnpinoaaDoor.Span
set_option linter.unusedVariables false

theorem cuts_l (xs : List ByteArray) (hx : ∀ s ∈ xs, ∃ l : List UInt8, s = S l ∧ l.length ≤ 140737488351232 ∧ parseL l = (0, 2)) (hn : xs.length ≤ 100) :
    ∀ m j k : Nat, xs.length - j = m → j ≤ xs.length → m < k → remontoirlaw02_SpanCuts.l0 k xs (xs.length : Int) j = some true := by
  intro m
  induction m with
  | zero =>
    intro j k hm hj hk
    obtain ⟨k, rfl⟩ : ∃ i, k = i + 1 := ⟨k - 1, by omega⟩
    simp only [remontoirlaw02_SpanCuts.l0]
    rw [if_neg (by omega), wakes_ok]; rfl
  | succ m ih =>
    intro j k hm hj hk
    obtain ⟨k, rfl⟩ : ∃ i, k = i + 1 := ⟨k - 1, by omega⟩
    have hjl : j < xs.length := by omega
    have hget : rdOf ByteArray.empty xs (j : Int) = xs[j] := by
      unfold rdOf; rw [Int.toNat_natCast, List.getD_eq_getElem?_getD, List.getElem?_eq_getElem hjl]; rfl
    obtain ⟨l, e, hl, hp⟩ := hx xs[j] (List.getElem_mem hjl)
    have hw : wrap64 ((j : Int) + 1) = ((j + 1 : Nat) : Int) := by rw [wrap_in (by omega) (by omega)]; omega
    simp only [remontoirlaw02_SpanCuts.l0]
    rw [if_pos (by omega), if_pos (by omega), if_pos (by omega), hget, e, parse_at l hl, hp]
    simp only [Option.bind_some]
    rw [if_pos (by decide), if_pos (by decide), hw]
    exact ih (j + 1) k (by omega) (by omega) (by omega)
theorem cuts_j1 (l : List UInt8) (hl : l.length ≤ 300) (x : Nat) (h : parseL l = (x, 0)) : remontoirlaw02_SpanCuts.j1 20 (S l) false = some true := by
  simp only [remontoirlaw02_SpanCuts.j1]
  rw [if_neg (by decide), S_size, if_pos (by omega), if_pos (by omega), if_pos (by omega)]
  simp only [Option.bind_some]
  obtain ⟨r, hr⟩ := parse_head l x h
  have q1 : (S l ++ ⟨#[80]⟩ : ByteArray) = S (l ++ [80]) := S_append l [80]
  have q2 : (S l ++ ⟨#[32]⟩ : ByteArray) = S (l ++ [32]) := S_append l [32]
  have q4 : (⟨#[32]⟩ ++ S l : ByteArray) = S (32 :: l) := S_append [32] l
  have q5 : (⟨#[45]⟩ ++ S l : ByteArray) = S (45 :: l) := S_append [45] l
  rw [q1, q2, S_append, q4, q5]
  refine cuts_l _ ?_ (by simp) 5 0 19 (by simp) (by omega) (by omega)
  intro s hs
  simp only [List.mem_cons, List.not_mem_nil, or_false] at hs
  rcases hs with rfl | rfl | rfl | rfl | rfl
  · exact ⟨_, rfl, by rw [List.length_append]; simp only [List.length_cons, List.length_nil]; omega, parse_more_no l [] 80 rfl (by decide) x h⟩
  · exact ⟨_, rfl, by rw [List.length_append]; simp only [List.length_cons, List.length_nil]; omega, parse_more_no l [] 32 rfl (by decide) x h⟩
  · refine ⟨_, rfl, by rw [List.length_append]; omega, ?_⟩
    have := parse_more_no l r 80 rfl (by decide) x h
    rw [← hr] at this; exact this
  · exact ⟨_, rfl, by rw [List.length_cons]; omega, parse_begin_no 32 l (by decide)⟩
  · exact ⟨_, rfl, by rw [List.length_cons]; omega, parse_begin_no 45 l (by decide)⟩
theorem SpanCuts : remontoirlaw02_SpanCuts.Pure := by
  intro s a1 hs hw
  have hb := wf_u8 hw
  obtain ⟨b, rfl⟩ := Int.eq_ofNat_of_zero_le hb.1
  obtain ⟨l, rfl⟩ : ∃ l, s = S l := ⟨_, (S_of s).symm⟩
  rw [S_size] at hs
  refine ⟨21, ?_⟩
  unfold remontoirlaw02_SpanCuts.f
  rw [parse_at l hs]
  simp only [Option.bind_some]
  have stop : ∀ x : Int, remontoirlaw02_SpanCuts.j0 21 (S l) b x true = some true := by
    intro x; simp only [remontoirlaw02_SpanCuts.j0, if_true]; rw [wakes_ok]; rfl
  by_cases h3 : (((S l).size : Nat) : Int) > 300
  · rw [if_pos h3]; exact stop _
  · rw [if_neg h3]
    by_cases he : (parseL l).2 = 0
    · have h : parseL l = ((parseL l).1, 0) := Prod.ext rfl he
      have hl : l.length ≤ 300 := by rw [S_size] at h3; omega
      generalize (parseL l).1 = x at *
      rw [h]
      have hn : ((((x, 0) : Nat × Nat).2 : Nat) : Int) ≠ 0 ↔ False := by simp
      have hne : (((((x, 0) : Nat × Nat).2 : Nat) : Int) != 0) = false := rfl
      rw [hne]
      simp only [remontoirlaw02_SpanCuts.j0]
      have w1 : wrap64 ((b : Int)) = b := by unfold wrap64; omega
      have w2 : wrap64 ((((S l).size : Nat) : Int) + 1) = ((l.length + 1 : Nat) : Int) := by rw [S_size, wrap_in (by omega) (by omega)]; omega
      have w3 : Int.tmod (b : Int) ((l.length + 1 : Nat) : Int) = ((b % (l.length + 1) : Nat) : Int) := by
        rw [Int.tmod_eq_emod_of_nonneg (by omega), Int.natCast_emod]
      have w4 : b % (l.length + 1) ≤ l.length := by have := Nat.mod_lt b (show 0 < l.length + 1 by omega); omega
      rw [if_neg (by decide), w1, w2, w3]
      generalize b % (l.length + 1) = j at *
      rw [if_neg (by omega), if_pos (by omega), if_pos (by rw [S_size]; omega), Int.toNat_natCast, S_upto, parse_at _ (by rw [List.length_take]; omega)]
      simp only [Option.bind_some]
      by_cases hp : (((parseL (l.take j)).2 : Nat) : Int) = 0
      · have hp' : parseL (l.take j) = ((parseL (l.take j)).1, 0) := Prod.ext rfl (by show (parseL (l.take j)).2 = 0; omega)
        have hle := parse_pre (l.take j) (l.drop j) x _ hp' (by rw [List.take_append_drop]; exact h)
        rw [if_pos hp, decide_eq_false (by show ¬ (((parseL (l.take j)).1 : Nat) : Int) > (x : Int); omega)]
        exact cuts_j1 l hl x h
      · rw [if_neg hp]
        exact cuts_j1 l hl x h
    · have hne : ((((parseL l).2 : Nat) : Int) != 0) = true := by rw [bne_iff_ne]; omega
      rw [hne]; exact stop _
end Go.Proofs.YtmjabkegnpinoaaDoor.Pure
