/- WordsText, in plain words: the lines of a text, each with its end, are that text; two texts one behind the other have the lines of both. -/
import Derived.Test.YthneholbmninjaaDoorRx1
import Derived.Test.YthneholbmninjaaDoorPureWordsRef
namespace Go.Proofs.YthneholbmninjaaDoor.Pure
open Go.RowKit Go.Proofs.YthneholbmninjaaDoorW.PrintWords Go.Proofs.YthneholbmninjaaDoor.Ext Go.Proofs.YthneholbmninjaaDoor.Q Go.Proofs.YthneholbmninjaaDoor.R Go.Proofs.YthneholbmninjaaDoor.Span
set_option linter.unusedVariables false

def unl (xs : List (List UInt8)) : List UInt8 := xs.flatMap (fun x => x ++ [10])
theorem unl_cons (x : List UInt8) (xs : List (List UInt8)) : unl (x :: xs) = x ++ 10 :: unl xs := by unfold unl; rw [List.flatMap_cons, List.append_assoc]; rfl
theorem unl_append (xs ys : List (List UInt8)) : unl (xs ++ ys) = unl xs ++ unl ys := by unfold unl; rw [List.flatMap_append]
theorem unl_pieces (l : List UInt8) : unl (pieces 10 l) = l ++ [10] := by
  induction l with
  | nil => rfl
  | cons d l ih =>
    rw [pieces]
    by_cases h : d = 10
    · rw [if_pos h, unl_cons, ih, h]; rfl
    · rw [if_neg h]
      cases hp : pieces 10 l with
      | nil => exact absurd hp (pieces_ne 10 l)
      | cons p ps =>
        rw [hp, unl_cons] at ih
        dsimp only
        rw [unl_cons, List.cons_append, ih]; rfl
theorem last_split {α : Type} (ps : List α) (x : α) (h : ps.getLast? = some x) : ps = ps.dropLast ++ [x] := by
  obtain ⟨y, rfl⟩ := List.getLast?_eq_some_iff.mp h
  rw [List.dropLast_concat]
theorem unl_lines (l : List UInt8) (h : (pieces 10 l).getLast? = some []) : unl (pieces 10 l).dropLast = l := by
  have h1 := unl_pieces l
  rw [last_split _ _ h, unl_append] at h1
  exact List.append_cancel_right h1
theorem pieces_two (b : List UInt8) (l : List UInt8) : (pieces 10 l).getLast? = some [] → pieces 10 (l ++ b) = (pieces 10 l).dropLast ++ pieces 10 b := by
  induction l with
  | nil => intro _; rfl
  | cons d l ih =>
    rw [List.cons_append, pieces, pieces]
    by_cases h : d = 10
    · rw [if_pos h, if_pos h]
      intro hl
      cases hp : pieces 10 l with
      | nil => exact absurd hp (pieces_ne 10 l)
      | cons p ps =>
        rw [hp, List.getLast?_cons_cons] at hl
        rw [hp] at ih
        rw [ih hl, List.dropLast_cons_cons]; rfl
    · rw [if_neg h, if_neg h]
      cases hp : pieces 10 l with
      | nil => exact absurd hp (pieces_ne 10 l)
      | cons p ps =>
        dsimp only
        cases ps with
        | nil => intro hl; simp at hl
        | cons q qs =>
          intro hl
          rw [List.getLast?_cons_cons] at hl
          rw [hp, List.getLast?_cons_cons] at ih
          rw [ih hl, List.dropLast_cons_cons, List.dropLast_cons_cons]; rfl
theorem lines_ok (l : List UInt8) (h : (linesL l).2 = 0) : l.length ≤ 6000 ∧ l.all okLine = true ∧ (pieces 10 l).getLast? = some [] ∧ linesL l = ((pieces 10 l).dropLast, 0) := by
  unfold linesL at *
  by_cases h6 : 6000 < l.length
  · rw [if_pos h6] at h; cases h
  · rw [if_neg h6] at h ⊢
    by_cases ha : l.all okLine = true
    · rw [if_pos ha] at h ⊢
      by_cases hl : (pieces 10 l).getLast? = some []
      · rw [if_pos hl]; exact ⟨by omega, ha, hl, rfl⟩
      · rw [if_neg hl] at h; cases h
    · rw [if_neg ha] at h; cases h
theorem lines_no (l : List UInt8) (h6 : l.length ≤ 6000) (h : ¬ (linesL l).2 = 0) : (linesL l) = ([], 2) ∧ ¬ (l.all okLine = true ∧ (pieces 10 l).getLast? = some []) := by
  unfold linesL at *
  rw [if_neg (by omega)] at h ⊢
  by_cases ha : l.all okLine = true
  · rw [if_pos ha] at h ⊢
    by_cases hl : (pieces 10 l).getLast? = some []
    · rw [if_pos hl] at h; exact absurd rfl h
    · rw [if_neg hl]; exact ⟨rfl, fun x => hl x.2⟩
  · rw [if_neg ha]; exact ⟨rfl, fun x => ha x.1⟩
/-- With a letter behind it a text is none, or too long. -/
theorem lines_x (a : List UInt8) (h6 : a.length ≤ 6000) : (linesL (a ++ [120])).2 = if a.length < 6000 then 2 else 15 := by
  have hlen : (a ++ [120]).length = a.length + 1 := by rw [List.length_append]; rfl
  unfold linesL
  rw [hlen]
  by_cases h : a.length < 6000
  · rw [if_neg (by omega), if_pos h]
    have hno : ¬ (pieces 10 (a ++ [120])).getLast? = some [] := by
      rw [pieces_last]
      rintro (h' | h')
      · simp at h'
      · simp at h'
    rw [if_neg hno]
    split <;> rfl
  · rw [if_pos (by omega), if_neg h]
theorem lines_both (a b : List UInt8) (h : a.length + b.length ≤ 6000) (ha : (linesL a).2 = 0) :
    (linesL (a ++ b)).2 = (linesL b).2 ∧ ((linesL b).2 = 0 → (linesL (a ++ b)).1 = (linesL a).1 ++ (linesL b).1) := by
  obtain ⟨h1, h2, h3, h4⟩ := lines_ok a ha
  have hp := pieces_two b a h3
  have hall : (a ++ b).all okLine = b.all okLine := by rw [List.all_append, h2, Bool.true_and]
  have hlast : (pieces 10 (a ++ b)).getLast? = (pieces 10 b).getLast? := by
    rw [hp]
    cases hq : pieces 10 b with
    | nil => exact absurd hq (pieces_ne 10 b)
    | cons p ps =>
      rw [List.getLast?_append]
      cases hl : (p :: ps).getLast? with
      | none => simp at hl
      | some x => rfl
  have hd : (pieces 10 (a ++ b)).dropLast = (pieces 10 a).dropLast ++ (pieces 10 b).dropLast := by
    rw [hp, List.dropLast_append_of_ne_nil (pieces_ne 10 b)]
  have hab : (a ++ b).length ≤ 6000 := by rw [List.length_append]; exact h
  have e : linesL (a ++ b) = if b.all okLine = true then (if (pieces 10 b).getLast? = some [] then ((pieces 10 a).dropLast ++ (pieces 10 b).dropLast, 0) else ([], 2)) else ([], 2) := by
    unfold linesL
    rw [if_neg (by omega), hall, hlast, hd]
  by_cases hb : (linesL b).2 = 0
  · obtain ⟨b1, b2, b3, b4⟩ := lines_ok b hb
    rw [e, if_pos b2, if_pos b3, b4, h4]
    exact ⟨rfl, fun _ => rfl⟩
  · obtain ⟨b1, b2⟩ := lines_no b (by omega) hb
    refine ⟨?_, fun x => absurd x hb⟩
    rw [e, b1]
    by_cases c1 : b.all okLine = true
    · rw [if_pos c1, if_neg (fun x => b2 ⟨c1, x⟩)]
    · rw [if_neg c1]
theorem text_x (a : List UInt8) : (S a ++ ⟨#[120]⟩ : ByteArray) = S (a ++ [120]) := S_append a [120]
theorem x_tail (a : List UInt8) (h6 : a.length ≤ 6000) : ((((linesL (a ++ [120])).2 : Nat) : Int) == 2) = decide ((a.length : Int) < 6000) := by
  rw [lines_x a h6]
  by_cases h : a.length < 6000
  · rw [if_pos h, decide_eq_true (by omega)]; rfl
  · rw [if_neg h, decide_eq_false (by omega)]; rfl
theorem text_j1 (a : List UInt8) (h6 : a.length ≤ 6000) (k : Nat) (hk : 6100 ≤ k) : remontoirlaw16_WordsText.j1 k (S a) false = some true := by
  obtain ⟨k, rfl⟩ : ∃ i, k = i + 1 := ⟨k - 1, by omega⟩
  simp only [remontoirlaw16_WordsText.j1]
  rw [if_neg (by decide), S_size, if_pos (by omega), text_x, lines_f _ k (by rw [List.length_append, List.length_singleton]; omega)]
  unfold VL
  rw [Option.bind_some]
  dsimp only
  rw [x_tail a h6, beq_self_eq_true, if_pos rfl, wakes_ok k (by omega)]; rfl
theorem unl_size (xs : List (List UInt8)) (i : Nat) : (unl (xs.take i)).length ≤ (unl xs).length := by
  conv => rhs; rw [← List.take_append_drop i xs, unl_append, List.length_append]
  omega
theorem text_l0 (a b : List UInt8) (h : a.length + b.length ≤ 6000) (ha : (linesL a).2 = 0) :
    ∀ m i k : Nat, (linesL a).1.length - i = m → i ≤ (linesL a).1.length → m + 6200 + (linesL (a ++ b)).1.length < k →
      remontoirlaw16_WordsText.l0 k (S a) ((linesL a).1.map S) ((linesL b).1.map S) ((linesL b).2 : Nat) ((linesL (a ++ b)).1.map S) ((linesL (a ++ b)).2 : Nat) (S (unl ((linesL a).1.take i))) (i : Int) = some true := by
  obtain ⟨h1, h2, h3, h4⟩ := lines_ok a ha
  have hu : unl (linesL a).1 = a := by rw [h4]; exact unl_lines a h3
  obtain ⟨g1, g2⟩ := lines_both a b h ha
  have hbound : (linesL a).1.length ≤ 6000 := by
    have : ∀ xs : List (List UInt8), xs.length ≤ (unl xs).length := by
      intro xs
      induction xs with
      | nil => exact Nat.zero_le _
      | cons x xs ih => rw [unl_cons, List.length_append, List.length_cons, List.length_cons]; omega
    have := this (linesL a).1
    rw [hu] at this
    omega
  have hzl : (linesL (a ++ b)).1.length ≤ 6000 + 6000 → True := fun _ => trivial
  generalize hx : (linesL a).1 = x at *
  generalize hy : (linesL b).1 = y at *
  generalize hf : (linesL b).2 = f at *
  generalize hz : (linesL (a ++ b)).1 = z at *
  intro m
  induction m with
  | zero =>
    intro i k hm hi hk
    obtain ⟨k, rfl⟩ : ∃ i, k = i + 1 := ⟨k - 1, by omega⟩
    simp only [remontoirlaw16_WordsText.l0]
    rw [List.length_map, if_neg (by omega), List.take_of_length_le (by omega), hu, if_pos rfl, g1, if_pos rfl]
    by_cases hf0 : (f : Int) = 0
    · have hf0' : f = 0 := by omega
      have hzz := g2 hf0'
      have hyl : y.length ≤ 6000 := by
        have := congrArg List.length hzz
        rw [List.length_append] at this
        have hzlen : z.length ≤ 6000 := by
          rw [← hz]
          have hab : (linesL (a ++ b)).2 = 0 := by omega
          obtain ⟨c1, c2, c3, c4⟩ := lines_ok (a ++ b) hab
          have hq : ∀ xs : List (List UInt8), xs.length ≤ (unl xs).length := by
            intro xs
            induction xs with
            | nil => exact Nat.zero_le _
            | cons x xs ih => rw [unl_cons, List.length_append, List.length_cons, List.length_cons]; omega
          have := hq (linesL (a ++ b)).1
          rw [c4] at this ⊢
          dsimp only at this ⊢
          rw [unl_lines (a ++ b) c3] at this
          omega
        omega
      rw [if_pos hf0]
      simp only [Option.bind_some, List.nil_append]
      rw [List.length_nil, List.length_map, List.length_map, if_pos (by omega), if_pos (by omega), ← List.map_append, ← hzz, texts_f _ _ (by rw [List.length_map, hzz, List.length_append]; omega) k (by rw [List.length_map]; omega), Option.bind_some, decide_eq_true rfl]
      exact text_j1 a (by omega) k (by omega)
    · rw [if_neg hf0]
      exact text_j1 a (by omega) k (by omega)
  | succ m ih =>
    intro i k hm hi hk
    clear hf g1 g2 ha hx hy hz h4 h2 h3 hzl
    obtain ⟨k, rfl⟩ : ∃ i, k = i + 1 := ⟨k - 1, by omega⟩
    have hil : i < x.length := by omega
    have hw := wrapS i (by omega)
    have hrd : rdOf ByteArray.empty (x.map S) (i : Int) = S x[i] := by
      rw [rd_at _ _ (by rw [List.length_map]; exact hil), List.getElem_map]
    have htk : unl (x.take (i + 1)) = unl (x.take i) ++ (x[i] ++ [10]) := by
      rw [List.take_succ_eq_append_getElem hil, unl_append, unl_cons]; rfl
    have hs := unl_size x (i + 1)
    rw [hu, htk, List.length_append, List.length_append, List.length_singleton] at hs
    have e10 : (S x[i] ++ ⟨#[10]⟩ : ByteArray) = S (x[i] ++ [10]) := S_append _ [10]
    simp only [remontoirlaw16_WordsText.l0]
    rw [List.length_map, if_pos (by omega), if_pos (by omega), hrd, S_size, if_pos (by omega), e10, S_size, S_size, List.length_append, List.length_singleton, if_pos (by omega), S_append, hw, ← htk]
    exact ih (i + 1) k (by omega) (by omega) (by omega)
theorem WordsText : remontoirlaw16_WordsText.Pure := by
  intro a0 a1 h0 h1
  obtain ⟨a, rfl⟩ : ∃ l, a0 = S l := ⟨_, (S_of a0).symm⟩
  obtain ⟨b, rfl⟩ : ∃ l, a1 = S l := ⟨_, (S_of a1).symm⟩
  rw [S_size] at h0 h1
  refine ⟨(linesL (a ++ b)).1.length + (linesL a).1.length + a.length + b.length + 7000, ?_⟩
  unfold remontoirlaw16_WordsText.f
  have hw : wrap64 (((S a).size : Int) + ((S b).size : Int)) = ((a.length + b.length : Nat) : Int) := by rw [S_size, S_size]; unfold wrap64; omega
  rw [hw]
  by_cases h6 : 6000 < a.length + b.length
  · rw [if_pos (by omega), wakes_ok _ (by omega)]; rfl
  · rw [if_neg (by omega), lines_f a _ (by omega), lines_f b _ (by omega)]
    unfold VL
    rw [Option.bind_some, Option.bind_some, S_size, S_size, if_pos (by omega), S_append, lines_f (a ++ b) _ (by rw [List.length_append]; omega)]
    unfold VL
    rw [Option.bind_some]
    dsimp only
    by_cases he : (linesL a).2 = 0
    · rw [if_pos (by omega)]
      exact text_l0 a b (by omega) he (linesL a).1.length 0 _ rfl (Nat.zero_le _) (by omega)
    · obtain ⟨e1, e2⟩ := lines_no a (by omega) he
      rw [e1] at he ⊢
      dsimp only
      rw [if_neg (by decide), if_pos (by rfl), if_pos (by omega), text_x, lines_f _ _ (by rw [List.length_append, List.length_singleton]; omega)]
      unfold VL
      rw [Option.bind_some]
      dsimp only
      rw [x_tail a (by omega), beq_self_eq_true, if_pos rfl, wakes_ok _ (by omega)]; rfl
end Go.Proofs.YthneholbmninjaaDoor.Pure
