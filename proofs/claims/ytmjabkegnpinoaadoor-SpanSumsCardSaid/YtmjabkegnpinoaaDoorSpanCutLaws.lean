/- Plain laws of durations: a beginning that is a duration lasts no longer; with something behind it that no duration goes on with, a duration is none; years, months, leading noughts. No program in sight. -/
import Derived.Test.YtmjabkegnpinoaaDoorSpanLaws
namespace Go.Proofs.YtmjabkegnpinoaaDoor.Span
set_option linter.unusedVariables false

/-- Did next find a number and a unit? -/
def nextOk (l : List UInt8) : Prop := ¬ (nD l < 1 ∨ 15 < nD l ∨ nD l = l.length ∨ (l.getD 0 0 = 48 ∧ 1 < nD l))
theorem next_yes (l : List UInt8) (h : nextOk l) : nextL l = (val (l.take (nD l)), (l.getD (nD l) 0).toNat, l.drop (nD l + 1)) := if_neg h
theorem next_no (l : List UInt8) (h : ¬ nextOk l) : nextL l = (0, 0, []) := if_pos (Classical.not_not.mp h)
theorem next_ok_of (l : List UInt8) (h : (nextL l).2.1 ≠ 0) : nextOk l := by
  refine Classical.byContradiction fun hn => h ?_
  rw [next_no l hn]
theorem nD_append (l q : List UInt8) (h : nD l < l.length) : nD (l ++ q) = nD l := by
  induction l with
  | nil => simp at h
  | cons c l ih =>
    rw [List.cons_append, nD, nD]
    by_cases hc : isD c = true
    · rw [if_pos hc, if_pos hc]
      rw [nD, if_pos hc, List.length_cons] at h
      rw [ih (by omega)]
    · rw [if_neg hc, if_neg hc]
/-- What stands behind the unit changes nothing of it. -/
theorem next_append (l q : List UInt8) (h : nextOk l) : nextOk (l ++ q) ∧ nextL (l ++ q) = ((nextL l).1, (nextL l).2.1, (nextL l).2.2 ++ q) := by
  have hle := nD_le l
  have hlt : nD l < l.length := by unfold nextOk at h; omega
  have hd := nD_append l q hlt
  have hg0 : (l ++ q).getD 0 0 = l.getD 0 0 := by
    cases l with
    | nil => simp at hlt
    | cons c l => rfl
  have hok : nextOk (l ++ q) := by
    unfold nextOk at *
    rw [hd, hg0, List.length_append]
    rintro (h' | h' | h' | h')
    · exact h (Or.inl h')
    · exact h (Or.inr (Or.inl h'))
    · omega
    · exact h (Or.inr (Or.inr (Or.inr h')))
  refine ⟨hok, ?_⟩
  rw [next_yes _ hok, next_yes _ h, hd]
  have e1 : (l ++ q).take (nD l) = l.take (nD l) := by rw [List.take_append_of_le_length hle]
  have e2 : (l ++ q).getD (nD l) 0 = l.getD (nD l) 0 := by
    rw [List.getD_eq_getElem?_getD, List.getD_eq_getElem?_getD, List.getElem?_append_left hlt]
  have e3 : (l ++ q).drop (nD l + 1) = l.drop (nD l + 1) ++ q := by rw [List.drop_append_of_le_length (by omega)]
  rw [e1, e2, e3]
theorem next_bad (c : UInt8) (q : List UInt8) (h : isD c = false) : nextL (c :: q) = (0, 0, []) := by
  apply next_no
  unfold nextOk
  intro hn
  apply hn
  left
  rw [nD, if_neg (by rw [h]; decide)]
  omega
theorem place_pos (u : Nat) (p : Int) (hp : -1 ≤ p) (h : p < place u) : u ≠ 0 := by
  rintro rfl
  have : place 0 = -1 := rfl
  omega
theorem held_ge (a b : Nat) (h : a < 18446744073709551616) : a ≤ heldN a b := by unfold heldN; split <;> omega
theorem more_ge (t n u : Nat) (h : t < 18446744073709551616) : t ≤ moreN t n u := by unfold moreN; split <;> exact held_ge _ _ h
theorem fin_eq (t z : Nat) (h : finN t = (z, 0)) : z = t := by
  unfold finN at h
  split at h
  · cases h
  · cases h; rfl
theorem part_ge (k : Nat) : ∀ (l : List UInt8) (t : Nat) (p : Int) (z : Nat), t < 18446744073709551616 → partL k l t p = (z, 0) → t ≤ z := by
  induction k with
  | zero => intro l t p z _ h; cases h
  | succ k ih =>
    intro l t p z ht h
    have hm := more_ge t (nextL l).1 (unitN (place (nextL l).2.1)) ht
    have hm2 := moreN_lt t (nextL l).1 (unitN (place (nextL l).2.1))
    rw [partL] at h
    split at h
    · cases h
    · split at h
      · have := fin_eq _ _ h; omega
      · have := ih _ _ _ _ hm2 h; omega
theorem time_ge (l : List UInt8) (t z : Nat) (ht : t < 18446744073709551616) (h : timeL l t = (z, 0)) : t ≤ z := by
  unfold timeL at h
  split at h
  · exact part_ge _ _ _ _ _ ht h
  · cases h
/-! ### A beginning -/
theorem part_pre (k : Nat) : ∀ (l q : List UInt8) (t : Nat) (p : Int) (x y : Nat), t < 18446744073709551616 → -1 ≤ p → partL k l t p = (y, 0) → partL k (l ++ q) t p = (x, 0) → y ≤ x := by
  induction k with
  | zero => intro l q t p x y _ _ h _; cases h
  | succ k ih =>
    intro l q t p x y ht hp h1 h2
    rw [partL] at h1 h2
    split at h1
    · cases h1
    · rename_i hpl
      have hok := next_ok_of l (place_pos _ p hp (by omega))
      obtain ⟨_, e⟩ := next_append l q hok
      rw [e] at h2
      have hm2 := moreN_lt t (nextL l).1 (unitN (place (nextL l).2.1))
      have hpb := place_bd (nextL l).2.1
      simp only at h2
      rw [if_neg hpl] at h2
      split at h1
      · rename_i hr
        have := fin_eq _ _ h1
        rw [hr, List.nil_append] at h2
        split at h2
        · have := fin_eq _ _ h2; omega
        · have := part_ge _ _ _ _ _ hm2 h2; omega
      · rename_i hr
        rw [if_neg (by simp [hr])] at h2
        exact ih _ _ _ _ _ _ hm2 hpb.1 h1 h2
theorem time_pre (l q : List UInt8) (t x y : Nat) (ht : t < 18446744073709551616) (h1 : timeL l t = (y, 0)) (h2 : timeL (l ++ q) t = (x, 0)) : y ≤ x := by
  unfold timeL at h1
  split at h1
  · exact part_pre _ _ _ _ _ _ _ ht (by omega) h1 h2
  · cases h1
theorem date_ok (l : List UInt8) (y : Nat) (h : dateL l = (y, 0)) : nextOk l := by
  apply next_ok_of
  intro e
  unfold dateL at h
  rw [e] at h
  simp at h
theorem date_pre (l q : List UInt8) (x y : Nat) (h1 : dateL l = (y, 0)) (h2 : dateL (l ++ q) = (x, 0)) : y ≤ x := by
  have hok := date_ok l y h1
  obtain ⟨_, e⟩ := next_append l q hok
  unfold dateL at h1 h2
  rw [e] at h2
  simp only at h2
  have w1 := moreN_lt 0 (nextL l).1 86400
  split at h1
  · cases h1
  · rename_i c1
    rw [if_neg c1] at h2
    split at h1
    · rename_i c2
      rw [if_pos c2] at h2
      split at h1
      · split at h2
        · have := fin_eq _ _ h1; have := fin_eq _ _ h2; omega
        · cases h2
      · cases h1
    · rename_i c2
      rw [if_neg c2] at h2
      split at h1
      · rename_i c3
        rw [if_pos c3] at h2
        split at h1
        · rename_i hr
          have := fin_eq _ _ h1
          rw [hr, List.nil_append] at h2
          split at h2
          · have := fin_eq _ _ h2; omega
          · have := time_ge _ _ _ w1 h2; omega
        · rename_i hr
          rw [if_neg (by simp [hr])] at h2
          exact time_pre _ _ _ _ _ w1 h1 h2
      · cases h1
theorem parse_pre (l q : List UInt8) (x y : Nat) (h1 : parseL l = (y, 0)) (h2 : parseL (l ++ q) = (x, 0)) : y ≤ x := by
  unfold parseL at h1
  split at h1
  · rename_i r
    rw [List.cons_append, parse_P] at h2
    split at h1
    · rename_i hT
      obtain ⟨r', rfl⟩ : ∃ r', r = 84 :: r' := by
        cases r with
        | nil => cases hT
        | cons d r' => exact ⟨r', by rw [Option.some.inj hT]⟩
      rw [if_pos (show ((84 :: r') ++ q).head? = some 84 from rfl)] at h2
      exact time_pre _ _ _ _ _ (by omega) h1 h2
    · rename_i hT
      have hok := date_ok r y h1
      have hne : r ≠ [] := by rintro rfl; unfold nextOk at hok; simp [nD] at hok
      have hT' : ¬ (r ++ q).head? = some 84 := by
        cases r with
        | nil => exact absurd rfl hne
        | cons d r' => exact hT
      rw [if_neg hT'] at h2
      exact date_pre _ _ _ _ h1 h2
  · cases h1
/-! ### Something behind -/
theorem part_more_no (k : Nat) : ∀ (l q : List UInt8) (c : UInt8) (hc : isD c = false) (t : Nat) (p : Int) (y : Nat), -1 ≤ p → partL k l t p = (y, 0) → partL k (l ++ c :: q) t p = (0, 2) := by
  induction k with
  | zero => intro l q c hc t p y _ h; cases h
  | succ k ih =>
    intro l q c hc t p y hp h1
    rw [partL] at h1 ⊢
    split at h1
    · cases h1
    · rename_i hpl
      have hok := next_ok_of l (place_pos _ p hp (by omega))
      obtain ⟨_, e⟩ := next_append l (c :: q) hok
      have hpb := place_bd (nextL l).2.1
      rw [e]
      simp only
      rw [if_neg hpl, if_neg (by simp)]
      split at h1
      · rename_i hr
        rw [hr, List.nil_append]
        cases k with
        | zero => rfl
        | succ k =>
          rw [partL, next_bad c q hc]
          exact if_pos hpb.1
      · exact ih _ _ _ hc _ _ _ hpb.1 h1
theorem time_more_no (l q : List UInt8) (c : UInt8) (hc : isD c = false) (t y : Nat) (h1 : timeL l t = (y, 0)) : timeL (l ++ c :: q) t = (0, 2) := by
  unfold timeL at h1
  split at h1
  · exact part_more_no _ _ _ _ hc _ _ _ (by omega) h1
  · cases h1
theorem time_no' (c : UInt8) (q : List UInt8) (h : c ≠ 84) (t : Nat) : timeL (c :: q) t = (0, 2) := by
  unfold timeL
  split
  · rename_i heq; exact absurd (List.cons.inj heq).1 h
  · rfl
theorem date_more_no (l q : List UInt8) (c : UInt8) (hc : isD c = false) (h84 : c ≠ 84) (y : Nat) (h1 : dateL l = (y, 0)) : dateL (l ++ c :: q) = (0, 2) := by
  have hok := date_ok l y h1
  obtain ⟨_, e⟩ := next_append l (c :: q) hok
  unfold dateL at h1 ⊢
  rw [e]
  simp only
  split at h1
  · cases h1
  · rename_i c1
    rw [if_neg c1]
    split at h1
    · rename_i c2
      rw [if_pos c2, if_neg (by simp)]
    · rename_i c2
      rw [if_neg c2]
      split at h1
      · rename_i c3
        rw [if_pos c3, if_neg (by simp)]
        split at h1
        · rename_i hr
          rw [hr, List.nil_append]
          exact time_no' c q h84 _
        · exact time_more_no _ _ _ hc _ _ h1
      · cases h1
theorem parse_more_no (l q : List UInt8) (c : UInt8) (hc : isD c = false) (h84 : c ≠ 84) (y : Nat) (h1 : parseL l = (y, 0)) : parseL (l ++ c :: q) = (0, 2) := by
  unfold parseL at h1
  split at h1
  · rename_i r
    rw [List.cons_append, parse_P]
    split at h1
    · rename_i hT
      obtain ⟨r', rfl⟩ : ∃ r', r = 84 :: r' := by
        cases r with
        | nil => cases hT
        | cons d r' => exact ⟨r', by rw [Option.some.inj hT]⟩
      rw [if_pos (show ((84 :: r') ++ c :: q).head? = some 84 from rfl)]
      exact time_more_no _ _ _ hc _ _ h1
    · rename_i hT
      have hok := date_ok r y h1
      have hne : r ≠ [] := by rintro rfl; unfold nextOk at hok; simp [nD] at hok
      have hT' : ¬ (r ++ c :: q).head? = some 84 := by
        cases r with
        | nil => exact absurd rfl hne
        | cons d r' => exact hT
      rw [if_neg hT']
      exact date_more_no _ _ _ hc h84 _ h1
  · cases h1
theorem parse_begin_no (c : UInt8) (q : List UInt8) (h : c ≠ 80) : parseL (c :: q) = (0, 2) := by
  unfold parseL
  split
  · rename_i heq; exact absurd (List.cons.inj heq).1 h
  · rfl
theorem parse_head (l : List UInt8) (y : Nat) (h : parseL l = (y, 0)) : ∃ r, l = 80 :: r := by
  unfold parseL at h
  split at h
  · exact ⟨_, rfl⟩
  · cases h
/-! ### Years and months; a nought ahead -/
theorem parse_calendar (n : Nat) (hn : n < 1000000000000000) (u : UInt8) (hu : u = 89 ∨ u = 77) (r : List UInt8) : parseL (80 :: (Lib.decDigits n ++ u :: r)) = (0, 4) := by
  have hd : isD u = false := by rcases hu with rfl | rfl <;> rfl
  rw [parse_P, if_neg (head_dec n _ 84 rfl)]
  unfold dateL
  rw [next_dec n hn u hd r]
  rcases hu with rfl | rfl
  · exact if_pos (Or.inl rfl)
  · exact if_pos (Or.inr rfl)
theorem parse_nought (n : Nat) (q : List UInt8) : parseL (80 :: 48 :: (Lib.decDigits n ++ q)) = (0, 2) := by
  rw [parse_P, if_neg (by intro e; exact absurd (Option.some.inj e) (by decide))]
  have hno : ¬ nextOk (48 :: (Lib.decDigits n ++ q)) := by
    unfold nextOk
    intro hn
    apply hn
    right; right; right
    refine ⟨rfl, ?_⟩
    rw [nD, if_pos (by decide)]
    cases hx : Lib.decDigits n with
    | nil => exact absurd hx (dec_ne n)
    | cons d l =>
      rw [List.cons_append, nD, if_pos (dec_digits n d (by rw [hx]; simp))]
      omega
  unfold dateL
  rw [next_no _ hno]
  rfl
end Go.Proofs.YtmjabkegnpinoaaDoor.Span
