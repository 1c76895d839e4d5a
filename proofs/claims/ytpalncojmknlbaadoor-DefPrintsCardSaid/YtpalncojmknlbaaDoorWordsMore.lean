/- Plain laws of lines and words: the lines of a text, the words of a line, the line of words. No program in sight. -/
import Derived.Test.YtpalncojmknlbaaDoorWordsLaws
namespace Go.Proofs.YtpalncojmknlbaaDoor.Span
open Go.RowKit
set_option linter.unusedVariables false

theorem pieces_snoc (c : UInt8) (l : List UInt8) : pieces c (l ++ [c]) = pieces c l ++ [[]] := by
  induction l with
  | nil => simp [pieces]
  | cons d l ih =>
    rw [List.cons_append, pieces, pieces, ih]
    by_cases h : d = c
    · rw [if_pos h, if_pos h]; rfl
    · rw [if_neg h, if_neg h]
      cases hp : pieces c l with
      | nil => exact absurd hp (pieces_ne c l)
      | cons p ps => rfl
/-- The last piece is empty just if the text is, or ends so. -/
theorem pieces_last (c : UInt8) (l : List UInt8) : (pieces c l).getLast? = some [] ↔ l = [] ∨ l.getLast? = some c := by
  induction l with
  | nil => exact ⟨fun _ => Or.inl rfl, fun _ => rfl⟩
  | cons d l ih =>
    rw [pieces]
    by_cases h : d = c
    · rw [if_pos h]
      cases hl : l with
      | nil => subst hl; rw [h]; exact ⟨fun _ => Or.inr rfl, fun _ => rfl⟩
      | cons e m =>
        rw [hl] at ih
        rw [List.getLast?_cons_cons]
        rw [show ([] :: pieces c (e :: m)).getLast? = (pieces c (e :: m)).getLast? by
          cases hp : pieces c (e :: m) with
          | nil => exact absurd hp (pieces_ne c _)
          | cons p ps => rw [List.getLast?_cons_cons]]
        rw [ih]
        simp
    · rw [if_neg h]
      cases hl : l with
      | nil =>
        subst hl
        simp [pieces, h]
      | cons e m =>
        rw [hl] at ih
        rw [List.getLast?_cons_cons]
        cases hp : pieces c (e :: m) with
        | nil => exact absurd hp (pieces_ne c _)
        | cons p ps =>
          rw [hp] at ih
          dsimp only
          cases ps with
          | nil =>
            have hpe : p = e :: m ∨ True := Or.inr trivial
            constructor
            · intro hx; simp at hx
            · rintro (hx | hx)
              · cases hx
              · have := ih.mpr (Or.inr hx)
                simp at this
                -- one piece that is empty: the text has no such byte and is empty
                subst this
                exfalso
                have hnil : pieces c (e :: m) = [[]] := hp
                rw [pieces] at hnil
                split at hnil
                · cases hm : pieces c m with
                  | nil => exact pieces_ne c m hm
                  | cons q qs => rw [hm] at hnil; cases hnil
                · split at hnil <;> cases hnil
          | cons q qs =>
            rw [List.getLast?_cons_cons] at ih ⊢
            rw [ih]
            simp
/-- What holds of every byte but the separator holds of the pieces' bytes. -/
theorem pieces_all (c : UInt8) (p : UInt8 → Bool) (hc : p c = false) (l : List UInt8) : (pieces c l).all (fun x => x.all p) = l.all (fun d => d == c || p d) := by
  induction l with
  | nil => rfl
  | cons d l ih =>
    rw [pieces]
    by_cases h : d = c
    · rw [if_pos h, List.all_cons, List.all_nil, Bool.true_and, ih, List.all_cons, h, beq_self_eq_true, Bool.true_or, Bool.true_and]
    · rw [if_neg h]
      have hb : (d == c) = false := beq_eq_false_iff_ne.mpr h
      cases hp : pieces c l with
      | nil => exact absurd hp (pieces_ne c l)
      | cons q qs =>
        rw [hp] at ih
        dsimp only
        rw [List.all_cons, List.all_cons, List.all_cons, hb, Bool.false_or, ← ih, List.all_cons, Bool.and_assoc]
/-! ### Lines -/
def okLine (c : UInt8) : Bool := c == 10 || (32 ≤ c.toNat && c.toNat ≤ 126)
def linesL (l : List UInt8) : List (List UInt8) × Nat :=
  if 6000 < l.length then ([], 15) else if l.all okLine = true then (if (pieces 10 l).getLast? = some [] then ((pieces 10 l).dropLast, 0) else ([], 2)) else ([], 2)
/-- The reference's way: line by line. -/
def refGo : List (List UInt8) → List UInt8 → List UInt8 → List (List UInt8) × Nat
  | acc, cur, [] => if cur = [] then (acc, 0) else ([], 2)
  | acc, cur, c :: r => if c = 10 then refGo (acc ++ [cur]) [] r else if 32 ≤ c.toNat ∧ c.toNat ≤ 126 then refGo acc (cur ++ [c]) r else ([], 2)
theorem refGo_eq (r : List UInt8) : ∀ (acc : List (List UInt8)) (cur : List UInt8), (∀ d ∈ cur, d ≠ 10) →
    refGo acc cur r = if r.all okLine = true then (if (pieces 10 (cur ++ r)).getLast? = some [] then (acc ++ (pieces 10 (cur ++ r)).dropLast, 0) else ([], 2)) else ([], 2) := by
  induction r with
  | nil =>
    intro acc cur h
    rw [List.append_nil, pieces_none 10 cur h]
    by_cases hc : cur = []
    · simp [refGo, hc]
    · simp [refGo, hc]
  | cons c r ih =>
    intro acc cur h
    rw [refGo]
    by_cases h10 : c = 10
    · rw [if_pos h10, ih (acc ++ [cur]) [] (by simp), h10, List.all_cons, pieces_hit 10 cur r h]
      have hok : okLine 10 = true := rfl
      rw [hok, Bool.true_and, List.nil_append]
      cases hp : pieces 10 r with
      | nil => exact absurd hp (pieces_ne 10 r)
      | cons q qs => rw [List.getLast?_cons_cons, List.dropLast_cons_cons, List.append_assoc]; rfl
    · rw [if_neg h10]
      by_cases hb : 32 ≤ c.toNat ∧ c.toNat ≤ 126
      · have hok : okLine c = true := by
          unfold okLine; rw [Bool.or_eq_true]; right; rw [Bool.and_eq_true, decide_eq_true_eq, decide_eq_true_eq]; exact hb
        rw [if_pos hb, ih acc (cur ++ [c]) (by
          intro d hd
          rcases List.mem_append.1 hd with hd | hd
          · exact h d hd
          · rw [List.mem_singleton.1 hd]; exact h10), List.all_cons, hok, Bool.true_and, List.append_assoc]
        rfl
      · have hok : ¬ (okLine c = true) := by
          unfold okLine; rw [Bool.or_eq_true, beq_iff_eq, Bool.and_eq_true, decide_eq_true_eq, decide_eq_true_eq]
          rintro (h' | h')
          · exact h10 h'
          · exact hb h'
        rw [if_neg hb, List.all_cons, if_neg (by rw [Bool.and_eq_true]; exact fun h' => hok h'.1)]
end Go.Proofs.YtpalncojmknlbaaDoor.Span
