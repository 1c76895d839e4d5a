/- The words of kinds: what the map 'names' of def.write holds while the loop over def.kinds() is under way, in whatever order it goes. -/
import Derived.Test.YtpalncojmknlbaaDoorDefKinds
import Derived.Maps.Views
namespace Go.Proofs.YtpalncojmknlbaaDoor.Ext
open Go.RowKit Go.Lib Go.Sort Go.Maps Go.WideMaps
set_option linter.unusedVariables false

/-- A kind's word. -/
def kindWord (k : Int) : List UInt8 :=
 if k = 1 then wStart else if k = 2 then wEnd else if k = 3 then wTask else if k = 4 then wCatch else if k = 5 then wXor else if k = 6 then wAnd else if k = 7 then wSub else if k = 8 then wStop else if k = 9 then wSide else []
theorem word_cases (k : Int) : kindWord k = [] ∨ k = 1 ∨ k = 2 ∨ k = 3 ∨ k = 4 ∨ k = 5 ∨ k = 6 ∨ k = 7 ∨ k = 8 ∨ k = 9 := by
 unfold kindWord
 by_cases h1 : k = 1; · exact Or.inr (by omega)
 by_cases h2 : k = 2; · exact Or.inr (by omega)
 by_cases h3 : k = 3; · exact Or.inr (by omega)
 by_cases h4 : k = 4; · exact Or.inr (by omega)
 by_cases h5 : k = 5; · exact Or.inr (by omega)
 by_cases h6 : k = 6; · exact Or.inr (by omega)
 by_cases h7 : k = 7; · exact Or.inr (by omega)
 by_cases h8 : k = 8; · exact Or.inr (by omega)
 by_cases h9 : k = 9; · exact Or.inr (by omega)
 left
 rw [if_neg h1, if_neg h2, if_neg h3, if_neg h4, if_neg h5, if_neg h6, if_neg h7, if_neg h8, if_neg h9]
theorem kind_word (k : Int) (h : kindWord k ≠ []) : kindOf (kindWord k) = k := by
 rcases word_cases k with e | e | e | e | e | e | e | e | e | e
 ·
  exact absurd e h
 all_goals (subst e; decide)
theorem word_kind (l : List UInt8) (h : kindOf l ≠ 0) : kindWord (kindOf l) = l := by
 unfold kindOf at h ⊢
 repeat' split
 all_goals first | (rename_i e; rw [e]; rfl) | skip
 all_goals simp_all
theorem kinds_at_any (l : List UInt8) (z : DataW Unit) : kindsD.atKey (.string l) z = if kindOf l = 0 then z else num (kindOf l) := by
 have m0 : IsMap (DataW.map [] : DataW Unit) := ⟨_, rfl⟩
 unfold kindsD kindOf
 repeat rw [at_put _ (by repeat (first | exact m0 | apply isMap_put))]
 repeat' split
 all_goals first | rfl | (simp_all; done) | contradiction
abbrev txt (l : List UInt8) : DataW Unit := .lit (.string l)
/-- What the map of names holds while some words are still to come. -/
def Names (D : DataW Unit) (left : Lit → Bool) : Prop :=
 IsMap D ∧ ∀ k : Int, D.atKey (.int .i64 k) (txt []) = txt (cond (left (.string (kindWord k))) [] (kindWord k))
theorem has_word (k : Int) (h : kindWord k ≠ []) : Maps.has kindsD (.string (kindWord k)) = true := by
 refine Maps.has_true_of_atKey (y := num k) (fun z => ?_)
 rw [kinds_at_any, kind_word k h, if_neg]
 rcases word_cases k with e | e | e | e | e | e | e | e | e | e
 ·
  exact absurd e h
 all_goals omega
theorem names_start : Names (.map []) (Maps.has kindsD) := by
 refine ⟨⟨_, rfl⟩, fun k => ?_⟩
 by_cases h : kindWord k = []
 ·
  rw [h]; cases Maps.has kindsD (.string []) <;> rfl
 ·
  rw [has_word k h]; rfl
theorem names_step {D : DataW Unit} {left : Lit → Bool} (h : Names D left) (l : List UInt8) (c : Int) (hc : kindOf l = c) (h0 : c ≠ 0) : Names (D.put (.int .i64 c) (txt l)) (fun z => left z && !z.sameKey (.string l)) := by
 obtain ⟨hm, hD⟩ := h
 have hw : kindWord c = l := by rw [← hc]; exact word_kind l (by rw [hc]; exact h0)
 refine ⟨isMap_put hm _ _, fun k => ?_⟩
 by_cases hk : k = c
 ·
  subst hk
  rw [atKey_put_same hm (by unfold WideAt.IsKeyLit; trivial), hw]
  have : (Lit.string l).sameKey (.string l) = true := by simp [Lit.sameKey]
  dsimp only
  rw [this, Bool.not_true, Bool.and_false]; rfl
 ·
  rw [atKey_put_other (fun e => hk (by cases e; rfl)), hD k]
  by_cases he : kindWord k = []
  ·
   rw [he]; dsimp only; cases left (.string []) <;> cases (Lit.string []).sameKey (.string l) <;> rfl
  ·
   have hne : (Lit.string (kindWord k)).sameKey (.string l) = false := by
    simp only [Lit.sameKey]
    rw [beq_eq_false_iff_ne]
    intro e
    apply hk
    rw [← kind_word k he, e, hc]
   dsimp only
   rw [hne, Bool.not_false, Bool.and_true]
theorem names_end {D : DataW Unit} {left : Lit → Bool} (h : Names D left) (hl : ∀ z, left z = false) (k : Int) : D.atKey (.int .i64 k) (txt []) = txt (kindWord k) := by
 rw [h.2 k, hl]; rfl
end Go.Proofs.YtpalncojmknlbaaDoor.Ext
