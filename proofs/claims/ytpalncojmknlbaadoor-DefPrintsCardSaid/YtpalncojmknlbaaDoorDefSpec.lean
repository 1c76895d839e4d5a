/- A definition's text, in plain words: a node's line, a flow's line, the whole text; each is the only text of what it says. No walk in sight. -/
import Derived.Test.YtpalncojmknlbaaDoorSpanLaws
import Derived.Test.YtpalncojmknlbaaDoorWordsMore
import Derived.Test.YtpalncojmknlbaaDoorAx2
import Derived.Test.YtpalncojmknlbaaDoorDefWrite
namespace Go.Proofs.YtpalncojmknlbaaDoor.Span
open Go.RowKit
set_option linter.unusedVariables false
set_option linter.unusedSimpArgs false

theorem dec_small (u : Nat) (h : u < 10) : Lib.decDigits u = [UInt8.ofNat (48 + u)] := by rw [Lib.decDigits, dif_pos h]
theorem dec_big (u : Nat) (h : ¬ u < 10) : Lib.decDigits u = Lib.decDigits (u / 10) ++ [UInt8.ofNat (48 + u % 10)] := by rw [Lib.decDigits, dif_neg h]
theorem isD_nat {c : UInt8} (h : isD c = true) : 48 ≤ c.toNat ∧ c.toNat ≤ 57 := by
 unfold isD at h; rw [Bool.and_eq_true, decide_eq_true_eq, decide_eq_true_eq] at h; exact h
theorem dig_of (c : UInt8) (h : isD c = true) : UInt8.ofNat (48 + (c.toNat - 48)) = c := by
 have := isD_nat h
 rw [show 48 + (c.toNat - 48) = c.toNat by omega]
 exact UInt8.ofNat_toNat
/-- A numeral without leading zeros is the numeral of its value. -/
theorem dec_of : ∀ (n : Nat) (l : List UInt8), l.length = n → l ≠ [] → (∀ c ∈ l, isD c = true) → (l.getD 0 0 ≠ 48 ∨ l.length = 1) → Lib.decDigits (val l) = l := by
 intro n
 induction n with
 | zero => intro l hn h0; exact absurd (List.eq_nil_of_length_eq_zero hn) h0
 | succ n ih =>
  intro l hn h0 hd hz
  obtain ⟨l', c, rfl⟩ : ∃ l' c, l = l' ++ [c] := ⟨l.dropLast, l.getLast h0, (List.dropLast_concat_getLast h0).symm⟩
  have hc := hd c (by simp)
  have hcn := isD_nat hc
  have hv : val (l' ++ [c]) = val l' * 10 + (c.toNat - 48) := valA_snoc l' 0 c
  rw [List.length_append, List.length_singleton] at hn
  by_cases he : l' = []
  ·
   subst he
   rw [hv, dec_small _ (by show 0 * 10 + _ < 10; omega)]
   show [UInt8.ofNat (48 + (0 * 10 + (c.toNat - 48)))] = [c]
   rw [Nat.zero_mul, Nat.zero_add, dig_of c hc]
  ·
   have hl0 : 0 < l'.length := List.length_pos_iff.mpr he
   have hget : (l' ++ [c]).getD 0 0 = l'.getD 0 0 := by
    rw [List.getD_eq_getElem?_getD, List.getD_eq_getElem?_getD, List.getElem?_append_left hl0]
   have hz' : l'.getD 0 0 ≠ 48 := by
    rcases hz with h | h
    ·
     rwa [hget] at h
    ·
     rw [List.length_append, List.length_singleton] at h; omega
   have hi := ih l' (by omega) he (fun d h => hd d (by simp [h])) (Or.inl hz')
   have hpos : 0 < val l' := by
    rcases Nat.eq_zero_or_pos (val l') with h | h
    ·
     rw [h] at hi
     exfalso
     apply hz'
     rw [← hi, dec_small 0 (by omega)]; rfl
    ·
     exact h
   rw [hv, dec_big _ (by omega)]
   rw [show (val l' * 10 + (c.toNat - 48)) / 10 = val l' by omega, show (val l' * 10 + (c.toNat - 48)) % 10 = c.toNat - 48 by omega, hi, dig_of c hc]
/-- A word that is a number of at most three digits. -/
def numO (w : List UInt8) : Option Int :=
 if w.length < 1 ∨ 9 < w.length ∨ (w.getD 0 0 = 48 ∧ 1 < w.length) ∨ ¬ (w.all isD = true) then none else if (val w : Int) ≤ 999 then some (val w : Int) else none
theorem numO_some {w : List UInt8} {n : Int} (h : numO w = some n) : Lib.itoa n = w ∧ 0 ≤ n ∧ n ≤ 999 := by
 unfold numO at h
 split at h
 ·
  cases h
 ·
  rename_i hc
  split at h
  ·
   rename_i h9
   obtain rfl := Option.some.inj h
   simp only [not_or, Decidable.not_not] at hc
   obtain ⟨h1, h2, h3, h4⟩ := hc
   refine ⟨?_, by omega, h9⟩
   unfold Lib.itoa
   rw [if_neg (by omega), Int.toNat_natCast]
   refine dec_of _ w rfl (by intro e; rw [e] at h1; exact h1 (by decide)) (fun c hc => List.all_eq_true.mp h4 c hc) ?_
   by_cases hl : w.length = 1
   ·
    exact Or.inr hl
   ·
    exact Or.inl (fun e => h3 ⟨e, by omega⟩)
  ·
   cases h
/-! ### Cutting at the first such byte -/
def cutG (c : UInt8) : List UInt8 → List UInt8 × List UInt8 × Bool
 | [] => ([], [], false)
 | d :: l => if d = c then ([], l, true) else (d :: (cutG c l).1, (cutG c l).2.1, (cutG c l).2.2)
theorem cutG_none (c : UInt8) (l : List UInt8) (h : ∀ d ∈ l, d ≠ c) : cutG c l = (l, [], false) := by
 induction l with
 | nil => rfl
 | cons d l ih => rw [cutG, if_neg (h d (by simp)), ih (fun e he => h e (by simp [he]))]
theorem cutG_hit (c : UInt8) (a b : List UInt8) (h : ∀ d ∈ a, d ≠ c) : cutG c (a ++ c :: b) = (a, b, true) := by
 induction a with
 | nil => rw [List.nil_append, cutG, if_pos rfl]
 | cons d a ih => rw [List.cons_append, cutG, if_neg (h d (by simp)), ih (fun e he => h e (by simp [he]))]
theorem cutG_cases (c : UInt8) (l : List UInt8) : ((∀ d ∈ l, d ≠ c) ∧ cutG c l = (l, [], false) ∧ pieces c l = [l]) ∨ (∃ a b, (∀ d ∈ a, d ≠ c) ∧ l = a ++ c :: b ∧ cutG c l = (a, b, true) ∧ pieces c l = a :: pieces c b) := by
 by_cases h : ∀ d ∈ l, d ≠ c
 ·
  exact Or.inl ⟨h, cutG_none c l h, pieces_none c l h⟩
 ·
  right
  have hm : c ∈ l := by
   refine Classical.byContradiction fun hn => h fun d hd e => hn (e ▸ hd)
  obtain ⟨a, b, rfl, hn⟩ := List.eq_append_cons_of_mem hm
  exact ⟨a, b, fun d hd e => hn (e ▸ hd), rfl, cutG_hit c a b (fun d hd e => hn (e ▸ hd)), pieces_hit c a b (fun d hd e => hn (e ▸ hd))⟩
end Go.Proofs.YtpalncojmknlbaaDoor.Span

namespace Go.Proofs.YtpalncojmknlbaaDoor.Pure
open Go.RowKit Go.Proofs.YtpalncojmknlbaaDoorW.PrintWords Go.Proofs.YtpalncojmknlbaaDoor.Ext Go.Proofs.YtpalncojmknlbaaDoor.A Go.Proofs.YtpalncojmknlbaaDoor.Span
set_option linter.unusedVariables false
set_option linter.unusedSimpArgs false
theorem wf_i64 {n : Int} (h : (Lit.int .i64 n).wf = true) : -9223372036854775808 ≤ n ∧ n ≤ 9223372036854775807 := by
 have e1 : IntKind.i64.min = -9223372036854775808 := rfl
 have e2 : IntKind.i64.max = 9223372036854775807 := rfl
 simp [Lit.wf, e1, e2] at h
 omega
theorem wrapS (n : Nat) (h : n ≤ 200000000000000) : wrap64 ((n : Int) + 1) = ((n + 1 : Nat) : Int) := by unfold wrap64; omega
/-- More rounds do no harm. -/
theorem up {α : Type} {g : Nat → Option α} (h : ∀ k, LeO (g k) (g (k + 1))) {a b : Nat} (hab : a ≤ b) {r : α} (hr : g a = some r) : g b = some r := by
 obtain ⟨j, rfl⟩ : ∃ j, b = a + j := ⟨b - a, by omega⟩
 exact more_rounds h a j r hr
theorem in_f (c a b : Int) : words_in.f c a b = some (decide (a ≤ c ∧ c ≤ b)) := by
 unfold words_in.f
 by_cases h : a ≤ c
 ·
  rw [if_pos h]
  by_cases h2 : c ≤ b
  ·
   rw [decide_eq_true h2, decide_eq_true ⟨h, h2⟩]
  ·
   rw [decide_eq_false h2, decide_eq_false (fun x => h2 x.2)]
 ·
  rw [if_neg h, decide_eq_false (fun x => h x.1)]
def numV (l : List UInt8) (most : Int) : Int × Bool :=
 if l.length < 1 ∨ 9 < l.length ∨ (l.getD 0 0 = 48 ∧ 1 < l.length) ∨ ¬ (l.all isD = true) then (0, false)
 else if (val l : Int) ≤ most then ((val l : Int), true) else (0, false)
theorem num_no (l : List UInt8) (most : Int) (h : l.length < 1 ∨ 9 < l.length ∨ (l.getD 0 0 = 48 ∧ 1 < l.length) ∨ ¬ (l.all isD = true)) : numV l most = (0, false) := if_pos h
theorem num_l0 (l : List UInt8) (most : Int) (h1 : 1 ≤ l.length) (h9 : l.length ≤ 9) (h0 : ¬ (l.getD 0 0 = 48 ∧ 1 < l.length)) :
  ∀ m j k : Nat, l.length - j = m → j ≤ l.length → (l.take j).all isD = true → m < k → words_Number.l0 k (S l) most (l.length : Int) (j : Int) = some (numV l most) := by
 intro m
 induction m with
 | zero =>
  intro j k hm hj ha hk
  obtain ⟨k, rfl⟩ : ∃ i, k = i + 1 := ⟨k - 1, by omega⟩
  rw [List.take_of_length_le (by omega)] at ha
  have hne : l ≠ [] := by intro e; rw [e] at h1; exact absurd h1 (by decide)
  have hat : strconv_Atoi.f (S l) = some (((val l : Nat) : Int), none) := by
   unfold strconv_Atoi.f
   rw [S_size, S_list, if_pos ⟨by omega, hne, ha⟩]
  have hv : numV l most = if (val l : Int) ≤ most then ((val l : Int), true) else (0, false) := by
   unfold numV
   rw [if_neg (by rintro (h | h | h | h) <;> first | omega | exact h0 h | exact h ha)]
  simp only [words_Number.l0]
  rw [if_neg (by omega), hat, Option.bind_some, hv]
  dsimp only
  by_cases hc : (val l : Int) ≤ most
  ·
   rw [if_pos hc, if_pos hc]
  ·
   rw [if_neg hc, if_neg hc]
 | succ m ih =>
  intro j k hm hj ha hk
  obtain ⟨k, rfl⟩ : ∃ i, k = i + 1 := ⟨k - 1, by omega⟩
  have hjl : j < l.length := by omega
  have hw := wrapS j (by omega)
  simp only [words_Number.l0]
  rw [if_pos (by omega), if_pos (by omega), if_pos (by rw [S_size]; omega), S_bt, in_f, Option.bind_some, hw]
  by_cases hd : isD (l.getD j 0) = true
  ·
   have hi := (isD_iff _).mp hd
   rw [decide_eq_true hi, if_pos rfl]
   refine ih (j + 1) k (by omega) (by omega) ?_ (by omega)
   rw [List.take_succ_eq_append_getElem hjl, List.all_append, ha, Bool.true_and]
   rw [List.getD_eq_getElem?_getD, List.getElem?_eq_getElem hjl] at hd
   simpa using hd
  ·
   have hi : ¬ (48 ≤ ((l.getD j 0).toNat : Int) ∧ ((l.getD j 0).toNat : Int) ≤ 57) := fun h => hd ((isD_iff _).mpr h)
   rw [decide_eq_false hi, if_neg (by decide)]
   rw [num_no l most (Or.inr (Or.inr (Or.inr (fun h => hd (List.all_eq_true.mp h _ (by
    rw [List.getD_eq_getElem?_getD, List.getElem?_eq_getElem hjl]; exact List.getElem_mem hjl))))))]
theorem num_f (l : List UInt8) (most : Int) (k : Nat) (hk : l.length + 3 < k) : words_Number.f k (S l) most = some (numV l most) := by
 obtain ⟨k, rfl⟩ : ∃ i, k = i + 1 := ⟨k - 1, by omega⟩
 unfold words_Number.f
 rw [S_size]
 by_cases h1 : l.length < 1
 ·
  rw [if_pos (by omega), num_no l most (Or.inl h1)]
  simp only [words_Number.j0, if_true]
 rw [if_neg (by omega)]
 by_cases h9 : 9 < l.length
 ·
  rw [if_pos (by omega), num_no l most (Or.inr (Or.inl h9))]
  simp only [words_Number.j0, if_true]
 rw [if_neg (by omega), if_pos (by omega)]
 have h0 : bt (S l) 0 = ((l.getD 0 0).toNat : Int) := S_bt l 0
 rw [h0]
 by_cases h48 : l.getD 0 0 = 48
 ·
  rw [if_pos ((is48 _).mpr h48)]
  by_cases hl : 1 < l.length
  ·
   rw [decide_eq_true (by omega), num_no l most (Or.inr (Or.inr (Or.inl ⟨h48, hl⟩)))]
   simp only [words_Number.j0, if_true]
  ·
   rw [decide_eq_false (by omega)]
   simp only [words_Number.j0]
   rw [if_neg (by decide), S_size]
   exact num_l0 l most (by omega) (by omega) (by omega) l.length 0 k (by omega) (by omega) rfl (by omega)
 ·
  rw [if_neg (fun e => h48 ((is48 _).mp e))]
  simp only [words_Number.j0]
  rw [if_neg (by decide), S_size]
  exact num_l0 l most (by omega) (by omega) (fun h => h48 h.1) l.length 0 k (by omega) (by omega) rfl (by omega)
def VL (r : List (List UInt8) × Nat) : Option (List ByteArray × Int) := some (r.1.map S, (r.2 : Int))
theorem okLine_iff (c : UInt8) : okLine c = true ↔ c = 10 ∨ (32 ≤ (c.toNat : Int) ∧ (c.toNat : Int) ≤ 126) := by
 unfold okLine
 rw [Bool.or_eq_true, beq_iff_eq, Bool.and_eq_true, decide_eq_true_eq, decide_eq_true_eq]
 constructor
 ·
  rintro (h | h)
  ·
   exact Or.inl h
  ·
   exact Or.inr (by omega)
 ·
  rintro (h | h)
  ·
   exact Or.inl h
  ·
   exact Or.inr (by omega)
theorem is10 (c : UInt8) : ((c.toNat : Int) = 10) ↔ c = 10 := by
 constructor
 ·
  intro h; exact UInt8.toNat_inj.mp (by have : c.toNat = 10 := (by omega); exact this)
 ·
  rintro rfl; rfl
theorem suffix_one (l : List UInt8) (c : UInt8) : Lib.hasSuffix l [c] = (l.getLast? == some c) := by
 unfold Lib.hasSuffix
 cases h : (l.getLast? == some c) with
 | true =>
  rw [beq_iff_eq] at h
  obtain ⟨x, rfl⟩ := List.getLast?_eq_some_iff.mp h
  exact List.isSuffixOf_iff_suffix.mpr ⟨x, rfl⟩
 | false =>
  rw [beq_eq_false_iff_ne] at h
  cases hs : [c].isSuffixOf l with
  | false => rfl
  | true =>
   obtain ⟨x, rfl⟩ := List.isSuffixOf_iff_suffix.mp hs
   exact absurd (by simp) h
theorem lines_l0 (x : List UInt8) (hl : x.length < 6000) :
  ∀ m j k : Nat, x.length + 1 - j = m → j ≤ x.length + 1 → m < k → ((x ++ [10]).take j).all okLine = true →
   words_Lines.l0 k (S (x ++ [10])) ((x.length + 1 : Nat) : Int) (j : Int) = if (x ++ [10]).all okLine = true then VL (pieces 10 x, 0) else VL ([], 2) := by
 have hlen : (x ++ [10]).length = x.length + 1 := by rw [List.length_append]; rfl
 intro m
 induction m with
 | zero =>
  intro j k hm hj hk ha
  obtain ⟨k, rfl⟩ : ∃ i, k = i + 1 := ⟨k - 1, by omega⟩
  rw [List.take_of_length_le (by omega)] at ha
  have hw : wrap64 (((x.length + 1 : Nat) : Int) - 1) = (x.length : Int) := by unfold wrap64; omega
  have hsp : strings_Split.f (S x) ⟨#[10]⟩ = some ((pieces 10 x).map S) := by
   unfold strings_Split.f
   rw [S_size, if_pos ⟨by omega, rfl⟩, split_pieces]
  simp only [words_Lines.l0]
  rw [if_neg (by omega), S_size, hlen, hw, if_pos (by omega), if_pos (by omega), Int.toNat_natCast, S_upto, List.take_left' rfl, hsp, Option.bind_some, if_pos ha]
  rfl
 | succ m ih =>
  intro j k hm hj hk ha
  obtain ⟨k, rfl⟩ : ∃ i, k = i + 1 := ⟨k - 1, by omega⟩
  have hjl : j < (x ++ [10]).length := by omega
  have hw := wrapS j (by omega)
  have hstep : okLine ((x ++ [10]).getD j 0) = true → ((x ++ [10]).take (j + 1)).all okLine = true := by
   intro h
   rw [List.take_succ_eq_append_getElem hjl, List.all_append, ha, Bool.true_and]
   rw [List.getD_eq_getElem?_getD, List.getElem?_eq_getElem hjl] at h
   simpa using h
  simp only [words_Lines.l0]
  rw [if_pos (by omega), if_pos (by omega), if_pos (by rw [S_size]; omega), S_bt, hw]
  by_cases h10 : (x ++ [10]).getD j 0 = 10
  ·
   rw [if_pos ((is10 _).mpr h10)]
   exact ih (j + 1) k (by omega) (by omega) (by omega) (hstep (by rw [h10]; rfl))
  ·
   rw [if_neg (fun e => h10 ((is10 _).mp e)), in_f, Option.bind_some]
   by_cases hb : 32 ≤ (((x ++ [10]).getD j 0).toNat : Int) ∧ (((x ++ [10]).getD j 0).toNat : Int) ≤ 126
   ·
    rw [decide_eq_true hb, if_pos rfl]
    exact ih (j + 1) k (by omega) (by omega) (by omega) (hstep ((okLine_iff _).mpr (Or.inr hb)))
   ·
    rw [decide_eq_false hb, if_neg (by decide)]
    have hno : ¬ ((x ++ [10]).all okLine = true) := by
     intro h
     have := List.all_eq_true.mp h _ (List.getElem_mem hjl)
     rw [okLine_iff] at this
     rw [List.getD_eq_getElem?_getD, List.getElem?_eq_getElem hjl] at h10 hb
     rcases this with h' | h'
     ·
      exact h10 h'
     ·
      exact hb h'
    rw [if_neg hno]
    rfl
theorem lines_f (l : List UInt8) (k : Nat) (hk : l.length + 3 < k) : words_Lines.f k (S l) = VL (linesL l) := by
 unfold words_Lines.f linesL
 rw [S_size, Lib.toList_data, S_list]
 by_cases h6 : 6000 < l.length
 ·
  rw [if_pos (by omega), if_pos h6]; rfl
 rw [if_neg (by omega), if_neg h6]
 by_cases h0 : l = []
 ·
  subst h0; rw [if_pos rfl]; rfl
 rw [if_neg h0]
 have hs : strings_HasSuffix.f (S l) ⟨#[10]⟩ = some (l.getLast? == some 10) := by
  unfold strings_HasSuffix.f
  rw [S_size, if_pos (by omega), S_list]
  exact congrArg some (suffix_one l 10)
 rw [hs, Option.bind_some]
 by_cases hx : l.getLast? = some 10
 ·
  rw [hx, beq_self_eq_true, if_pos rfl]
  obtain ⟨x, rfl⟩ := List.getLast?_eq_some_iff.mp hx
  have hlen : (x ++ [10]).length = x.length + 1 := by rw [List.length_append]; rfl
  have h00 := lines_l0 x (by omega) (x.length + 1) 0 k (by omega) (by omega) (by omega) rfl
  rw [hlen]
  refine Eq.trans h00 ?_
  rw [if_pos ((pieces_last 10 _).mpr (Or.inr hx)), pieces_snoc, List.dropLast_concat]
  split <;> rfl
 ·
  have hno : ¬ (pieces 10 l).getLast? = some [] := fun h => by
   rcases (pieces_last 10 _).mp h with h' | h'
   ·
    exact h0 h'
   ·
    exact hx h'
  rw [beq_eq_false_iff_ne.mpr hx, if_neg (by decide), if_neg hno]
  split <;> rfl
theorem text_eq (x y : ByteArray) : x.toList = y.toList ↔ x = y := by
 rw [Lib.toList_data, Lib.toList_data]
 constructor
 ·
  intro h; rw [← S_of x, ← S_of y, h]
 ·
  intro h; rw [h]
theorem rd_at (xs : List ByteArray) (j : Nat) (h : j < xs.length) : rdOf ByteArray.empty xs (j : Int) = xs[j] := by
 unfold rdOf; rw [Int.toNat_natCast, List.getD_eq_getElem?_getD, List.getElem?_eq_getElem h]; rfl
def okWord (c : UInt8) : Bool := 33 ≤ c.toNat && c.toNat ≤ 126
theorem okWord_iff (c : UInt8) : okWord c = true ↔ 33 ≤ c.toNat ∧ c.toNat ≤ 126 := by
 unfold okWord; rw [Bool.and_eq_true, decide_eq_true_eq, decide_eq_true_eq]
theorem okWord_32 : okWord 32 = false := rfl
def okW (x : List UInt8) : Bool := !x.isEmpty && x.all okWord
theorem set_last {α : Type} (acc : List α) (x y : α) : (acc ++ [x]).set ((acc ++ [x]).length - 1) y = acc ++ [y] := by
 rw [List.length_append, List.length_singleton, Nat.add_sub_cancel, List.set_append_right _ _ (Nat.le_refl _), Nat.sub_self]; rfl
theorem rd_last (acc : List ByteArray) (x : ByteArray) : rdOf ByteArray.empty (acc ++ [x]) (((acc ++ [x]).length - 1 : Nat) : Int) = x := by
 rw [rd_at _ _ (by rw [List.length_append, List.length_singleton]; omega)]
 simp
theorem snoc_byte (cur : List UInt8) (c : UInt8) : (S cur ++ ⟨#[c]⟩ : ByteArray) = S (cur ++ [c]) := S_append cur [c]
theorem no_snoc (cur : List UInt8) (c b : UInt8) (h : ∀ d ∈ cur, d ≠ b) (hc : c ≠ b) : ∀ d ∈ cur ++ [c], d ≠ b := by
 intro d hd
 rcases List.mem_append.1 hd with hd | hd
 ·
  exact h d hd
 ·
  rw [List.mem_singleton.1 hd]; exact hc
theorem splitGo_eq (r : List UInt8) : ∀ (acc : List ByteArray) (cur : List UInt8), (∀ d ∈ cur, d ≠ 32) →
  splitGo r (acc ++ [S cur]) = if r.all (fun d => d == 32 || okWord d) = true then some (acc ++ (pieces 32 (cur ++ r)).map S) else none := by
 induction r with
 | nil =>
  intro acc cur h
  rw [List.append_nil, pieces_none 32 cur h, splitGo, if_pos (by rfl)]; rfl
 | cons c r ih =>
  intro acc cur h
  rw [splitGo]
  by_cases h32 : c = 32
  ·
   have := ih (acc ++ [S cur]) [] (by simp)
   rw [if_pos h32, h32, empty_S, this, List.all_cons, pieces_hit 32 cur r h, List.nil_append, beq_self_eq_true, Bool.true_or, Bool.true_and, List.append_assoc]
   rfl
  ·
   have hb32 : (c == 32) = false := beq_eq_false_iff_ne.mpr h32
   rw [if_neg h32]
   by_cases hb : 33 ≤ c.toNat ∧ c.toNat ≤ 126
   ·
    rw [if_pos hb, rd_last, set_last, snoc_byte, ih acc (cur ++ [c]) (no_snoc cur c 32 h h32), List.all_cons, (okWord_iff c).mpr hb, Bool.or_true, Bool.true_and, List.append_assoc]
    rfl
   ·
    have hnw : okWord c = false := by rw [← Bool.not_eq_true, okWord_iff]; exact hb
    rw [if_neg hb, List.all_cons, hb32, hnw, Bool.or_false, Bool.false_and, if_neg (by decide)]
theorem ne_map (xs : List (List UInt8)) : (xs.map S).all (fun x => !x.data.toList.isEmpty) = xs.all (fun x => !x.isEmpty) := by
 induction xs with
 | nil => rfl
 | cons x xs ih => rw [List.map_cons, List.all_cons, List.all_cons, ih, S_list]
theorem okW_all (xs : List (List UInt8)) : xs.all okW = (xs.all (fun x => x.all okWord) && xs.all (fun x => !x.isEmpty)) := by
 induction xs with
 | nil => rfl
 | cons x xs ih =>
  rw [List.all_cons, List.all_cons, List.all_cons, ih]
  unfold okW
  cases x.isEmpty <;> cases x.all okWord <;> cases xs.all (fun x => x.all okWord) <;> rfl
/-- The words of a line. -/
def wordsL (l : List UInt8) : List (List UInt8) × Bool := if (pieces 32 l).all okW = true then (pieces 32 l, true) else ([], false)
theorem splitAll_eq (l : List UInt8) : splitAll l = ((wordsL l).1.map S, (wordsL l).2) := by
 unfold splitAll wordsL
 have h := splitGo_eq l [] [] (by simp)
 rw [List.nil_append, List.nil_append, List.nil_append] at h
 have h' : splitGo l [(⟨#[]⟩ : ByteArray)] = _ := h
 rw [h', okW_all, pieces_all 32 okWord okWord_32]
 cases hb : l.all (fun d => d == 32 || okWord d) with
 | false => rfl
 | true =>
  rw [if_pos rfl, Bool.true_and]
  dsimp only
  unfold splitEnd
  rw [ne_map]
  split <;> rfl
theorem split_f (l : List UInt8) (hl : l.length ≤ 1000000) : words_Split.f (S l) = some ((wordsL l).1.map S, (wordsL l).2) := by
 unfold words_Split.f
 rw [S_size, if_pos hl, S_list, splitAll_eq]
theorem join_two (x y : List UInt8) (r : List (List UInt8)) : Lib.join (x :: y :: r) [32] = x ++ 32 :: Lib.join (y :: r) [32] := by
 rw [Lib.join_cons, Lib.join_cons]; simp [Lib.joinTail]
theorem join_pieces (l : List UInt8) : Lib.join (pieces 32 l) [32] = l := by
 induction l with
 | nil => rfl
 | cons d l ih =>
  rw [pieces]
  by_cases h : d = 32
  ·
   rw [if_pos h]
   cases hp : pieces 32 l with
   | nil => exact absurd hp (pieces_ne 32 l)
   | cons p ps => rw [join_two, ← hp, ih, h]; rfl
  ·
   rw [if_neg h]
   cases hp : pieces 32 l with
   | nil => exact absurd hp (pieces_ne 32 l)
   | cons p ps =>
    dsimp only
    rw [hp, Lib.join_cons] at ih
    rw [Lib.join_cons, List.cons_append, ih]
theorem all_take (l : List UInt8) (p : UInt8 → Bool) (i : Nat) (hil : i < l.length) (ha : (l.take i).all p = true) (hb : p (l.getD i 0) = true) : (l.take (i + 1)).all p = true := by
 rw [List.take_succ_eq_append_getElem hil, List.all_append, ha, Bool.true_and]
 rw [List.getD_eq_getElem?_getD, List.getElem?_eq_getElem hil] at hb
 simpa using hb
theorem not_all_at (l : List UInt8) (p : UInt8 → Bool) (i : Nat) (hil : i < l.length) (hb : ¬ p (l.getD i 0) = true) : ¬ l.all p = true := by
 intro h
 have := List.all_eq_true.mp h _ (List.getElem_mem hil)
 rw [List.getD_eq_getElem?_getD, List.getElem?_eq_getElem hil] at hb
 exact hb this
def okN (c : UInt8) : Bool := (97 ≤ c.toNat && c.toNat ≤ 122) || (48 ≤ c.toNat && c.toNat ≤ 57)
theorem okN_iff (c : UInt8) : okN c = true ↔ (97 ≤ (c.toNat : Int) ∧ (c.toNat : Int) ≤ 122) ∨ (48 ≤ (c.toNat : Int) ∧ (c.toNat : Int) ≤ 57) := by
 unfold okN; rw [Bool.or_eq_true, Bool.and_eq_true, Bool.and_eq_true, decide_eq_true_eq, decide_eq_true_eq, decide_eq_true_eq, decide_eq_true_eq]; omega
def nameV (l : List UInt8) : Bool := l.all okN && (1 ≤ l.length && l.length ≤ 20)
theorem nameV_end (l : List UInt8) (ha : l.all okN = true) : (if ((S l).size : Int) ≥ 1 then (some (decide (((S l).size : Int) ≤ 20))) else (some false)) = some (nameV l) := by
 unfold nameV
 rw [ha, Bool.true_and, S_size]
 by_cases h : (l.length : Int) ≥ 1
 ·
  rw [if_pos h, decide_eq_true (show 1 ≤ l.length by omega), Bool.true_and, show decide ((l.length : Int) ≤ 20) = decide (l.length ≤ 20) from decide_eq_decide.mpr (by omega)]
 ·
  rw [if_neg h, decide_eq_false (show ¬ 1 ≤ l.length by omega), Bool.false_and]
theorem nameV_no (l : List UInt8) (ha : ¬ l.all okN = true) : nameV l = false := by
 unfold nameV; rw [Bool.eq_false_iff.mpr ha, Bool.false_and]
theorem wn_l0 (l : List UInt8) (hl : l.length ≤ 1000000) : ∀ m j k : Nat, l.length - j = m → j ≤ l.length → (l.take j).all okN = true → m < k → words_Name.l0 k (S l) (l.length : Int) (j : Int) = some (nameV l) := by
 intro m
 induction m with
 | zero =>
  intro j k hm hj ha hk
  obtain ⟨k, rfl⟩ : ∃ i, k = i + 1 := ⟨k - 1, by omega⟩
  rw [List.take_of_length_le (by omega)] at ha
  simp only [words_Name.l0]
  rw [if_neg (by omega)]
  exact nameV_end l ha
 | succ m ih =>
  intro j k hm hj ha hk
  obtain ⟨k, rfl⟩ : ∃ i, k = i + 1 := ⟨k - 1, by omega⟩
  have hjl : j < l.length := by omega
  have hw := wrapS j (by omega)
  have hih := fun hd => ih (j + 1) k (by omega) (by omega) (all_take l okN j hjl ha hd) (by omega)
  simp only [words_Name.l0]
  rw [if_pos (by omega), if_pos (by omega), if_pos (by rw [S_size]; omega), S_bt, hw, in_f, Option.bind_some, in_f, Option.bind_some]
  by_cases h1 : 97 ≤ ((l.getD j 0).toNat : Int) ∧ ((l.getD j 0).toNat : Int) ≤ 122
  ·
   rw [decide_eq_true h1, if_pos rfl]
   exact hih ((okN_iff _).mpr (Or.inl h1))
  ·
   rw [decide_eq_false h1, if_neg (by decide)]
   by_cases h2 : 48 ≤ ((l.getD j 0).toNat : Int) ∧ ((l.getD j 0).toNat : Int) ≤ 57
   ·
    rw [decide_eq_true h2, if_pos rfl]
    exact hih ((okN_iff _).mpr (Or.inr h2))
   ·
    rw [decide_eq_false h2, if_neg (by decide), nameV_no l (not_all_at l okN j hjl (fun h => by rcases (okN_iff _).mp h with h | h; exact h1 h; exact h2 h))]
theorem wn_f (l : List UInt8) (hl : l.length ≤ 1000000) (k : Nat) (hk : l.length < k) : words_Name.f k (S l) = some (nameV l) := by
 unfold words_Name.f
 rw [S_size]
 exact wn_l0 l hl l.length 0 k (by omega) (by omega) rfl hk
def unl (xs : List (List UInt8)) : List UInt8 := xs.flatMap (fun x => x ++ [10])
theorem unl_cons (x : List UInt8) (xs : List (List UInt8)) : unl (x :: xs) = x ++ 10 :: unl xs := by unfold unl; rw [List.flatMap_cons, List.append_assoc]; rfl
theorem unl_append (xs ys : List (List UInt8)) : unl (xs ++ ys) = unl xs ++ unl ys := by unfold unl; rw [List.flatMap_append]
theorem unl_pieces (l : List UInt8) : unl (pieces 10 l) = l ++ [10] := by
 induction l with
 | nil => rfl
 | cons d l ih =>
  rw [pieces]
  by_cases h : d = 10
  ·
   rw [if_pos h, unl_cons, ih, h]; rfl
  ·
   rw [if_neg h]
   cases hp : pieces 10 l with
   | nil => exact absurd hp (pieces_ne 10 l)
   | cons p ps =>
    rw [hp, unl_cons] at ih
    dsimp only
    rw [unl_cons, List.cons_append, ih]; rfl
theorem last_split {α : Type} (ps : List α) (x : α) (h : ps.getLast? = some x) : ps = ps.dropLast ++ [x] := by
 obtain ⟨y, rfl⟩ := List.getLast?_eq_some_iff.mp h
 rw [List.dropLast_concat]
theorem unl_lines (l : List UInt8) (h : (pieces 10 l).getLast? = some []) : unl (pieces 10 l).dropLast = l := by
 have h1 := unl_pieces l
 rw [last_split _ _ h, unl_append] at h1
 exact List.append_cancel_right h1
theorem lines_ok (l : List UInt8) (h : (linesL l).2 = 0) : l.length ≤ 6000 ∧ l.all okLine = true ∧ (pieces 10 l).getLast? = some [] ∧ linesL l = ((pieces 10 l).dropLast, 0) := by
 unfold linesL at *
 by_cases h6 : 6000 < l.length
 ·
  rw [if_pos h6] at h; cases h
 ·
  rw [if_neg h6] at h ⊢
  by_cases ha : l.all okLine = true
  ·
   rw [if_pos ha] at h ⊢
   by_cases hl : (pieces 10 l).getLast? = some []
   ·
    rw [if_pos hl]; exact ⟨by omega, ha, hl, rfl⟩
   ·
    rw [if_neg hl] at h; cases h
  ·
   rw [if_neg ha] at h; cases h
end Go.Proofs.YtpalncojmknlbaaDoor.Pure

namespace Go.Proofs.YtpalncojmknlbaaDoor.Pure
open Go.RowKit Go.Proofs.YtpalncojmknlbaaDoorW.PrintWords Go.Proofs.YtpalncojmknlbaaDoor.Ext Go.Proofs.YtpalncojmknlbaaDoor.A Go.Proofs.YtpalncojmknlbaaDoor.Y Go.Proofs.YtpalncojmknlbaaDoor.Span
set_option linter.unusedVariables false
set_option linter.unusedSimpArgs false

/-- A node's line, as words. -/
def nodeT (w : List UInt8) (l : List (List UInt8)) : Option S40 :=
 if kindOf w = 0 then none
 else if kindOf w = 3 then (match l with
  | [x, y] => (numO x).bind fun a => (numO y).bind fun b => some ⟨3, a, b, 0, S []⟩
  | _ => none)
 else if kindOf w = 4 then (match l with
  | [x, t] => (numO x).bind fun a => some ⟨4, a, 0, 0, S t⟩
  | _ => none)
 else if kindOf w = 8 ∨ kindOf w = 9 then (match l with
  | [x, y, t] => (numO x).bind fun a => (numO y).bind fun b => some ⟨kindOf w, a, 0, b, S t⟩
  | _ => none)
 else (match l with
  | [x] => (numO x).bind fun a => some ⟨kindOf w, a, 0, 0, S []⟩
  | _ => none)
def nodeW : List (List UInt8) → Option S40
 | [] => none
 | w :: l => nodeT w l
def nodeL (line : List UInt8) : Option S40 := if (pieces 32 line).all okW = true then nodeW (pieces 32 line) else none
def stripP (p l : List UInt8) : Option (List UInt8) := if l.take p.length = p then some (l.drop p.length) else none
def testL (r : List UInt8) : Option (List UInt8) := (stripP [105, 102, 32] r).bind fun g => if g = [] then none else some g
/-- A flow's line, behind its first word. -/
def flowR (rest : List UInt8) : Option S42 :=
 (numO (cutG 32 rest).1).bind fun a => (numO (cutG 32 (cutG 32 rest).2.1).1).bind fun b =>
  if (cutG 32 (cutG 32 rest).2.1).2.2 = false then some ⟨a, b, 0, 0, S []⟩
  else if (cutG 32 (cutG 32 rest).2.1).2.1 = wDefault then some ⟨a, b, 1, 0, S []⟩
  else match stripP [97, 103, 97, 105, 110, 32] (cutG 32 (cutG 32 rest).2.1).2.1 with
   | some r => (numO (cutG 32 r).1).bind fun m => (testL (cutG 32 r).2.1).bind fun g => some ⟨a, b, 3, m, S g⟩
   | none => (testL (cutG 32 (cutG 32 rest).2.1).2.1).bind fun g => some ⟨a, b, 2, 0, S g⟩
abbrev St := List S40 × List S42
/-- A line behind the first: what it adds, or what is wrong. -/
def stepL (st : St) (line : List UInt8) : Except Nat St :=
 if (cutG 32 line).1 = wFlow then
  match flowR (cutG 32 line).2.1 with
  | none => .error 2
  | some f => if 90 ≤ st.2.length then .error 15 else .ok (st.1, st.2 ++ [f])
 else match nodeL line with
  | none => .error 2
  | some n => if 60 ≤ st.1.length then .error 15 else if 0 < st.2.length then .error 2 else .ok (st.1 ++ [n], st.2)
def goL : Nat → St → List (List UInt8) → Except (Nat × Nat) St
 | _, st, [] => .ok st
 | i, st, l :: ls => match stepL st l with
  | .error e => .error (i + 1, e)
  | .ok st' => goL (i + 1) st' ls
def parseL1 (l : List UInt8) (ls : List (List UInt8)) : Except (Nat × Nat) (List UInt8 × St) :=
 if (cutG 32 l).1 = wProcess ∧ nameV (cutG 32 l).2.1 = true then (match goL 1 ([], []) ls with
   | .error e => .error e
   | .ok st => .ok ((cutG 32 l).2.1, st)) else .error (1, 2)
def parseLs : List (List UInt8) → Except (Nat × Nat) (List UInt8 × St)
 | [] => .error (1, 2)
 | l :: ls => parseL1 l ls
def parseT (t : List UInt8) : Except (Nat × Nat) (List UInt8 × St) := if (linesL t).2 = 0 then parseLs (linesL t).1 else .error (0, (linesL t).2)
/-! ### Each line is the only one of what it says -/
theorem okW_ne {x : List UInt8} (h : okW x = true) : x ≠ [] := by
 rintro rfl; cases h
theorem nodeL_text {line : List UInt8} {n : S40} (h : nodeL line = some n) : nodeText n = line ++ [10] := by
 unfold nodeL at h
 split at h
 case isFalse => cases h
 rename_i hok
 have hj := join_pieces line
 unfold nodeText lineL
 refine congrArg (· ++ [10]) ?_
 refine Eq.trans ?_ hj
 refine congrArg (Lib.join · [32]) ?_
 generalize pieces 32 line = ps at h hok
 have hS : (S []).data.toList = ([] : List UInt8) := S_list []
 match ps, h, hok with
 | w :: l, h, hok =>
  rw [List.all_cons, Bool.and_eq_true] at hok
  change nodeT w l = some n at h
  unfold nodeT at h
  by_cases h0 : kindOf w = 0
  ·
   rw [if_pos h0] at h; cases h
  have hw := word_kind w h0
  rw [if_neg h0] at h
  by_cases h3 : kindOf w = 3
  ·
   rw [if_pos h3] at h
   match l, h with
   | [x, y], h =>
    obtain ⟨a, ha, h⟩ := Option.bind_eq_some_iff.mp h
    obtain ⟨b, hb, h⟩ := Option.bind_eq_some_iff.mp h
    obtain rfl := Option.some.inj h
    unfold nodeMore
    dsimp only
    rw [if_pos rfl, hS, if_pos rfl, (numO_some ha).1, (numO_some hb).1, ← h3, hw]; rfl
  rw [if_neg h3] at h
  by_cases h4 : kindOf w = 4
  ·
   rw [if_pos h4] at h
   match l, h, hok with
   | [x, t], h, hok =>
    obtain ⟨a, ha, h⟩ := Option.bind_eq_some_iff.mp h
    obtain rfl := Option.some.inj h
    have ht : okW t = true := List.all_eq_true.mp hok.2 t (by simp)
    unfold nodeMore
    dsimp only
    rw [if_neg (by decide), if_neg (by decide), S_list, if_neg (okW_ne ht), (numO_some ha).1, ← h4, hw]; rfl
  rw [if_neg h4] at h
  by_cases h89 : kindOf w = 8 ∨ kindOf w = 9
  ·
   rw [if_pos h89] at h
   match l, h, hok with
   | [x, y, t], h, hok =>
    obtain ⟨a, ha, h⟩ := Option.bind_eq_some_iff.mp h
    obtain ⟨b, hb, h⟩ := Option.bind_eq_some_iff.mp h
    obtain rfl := Option.some.inj h
    have ht : okW t = true := List.all_eq_true.mp hok.2 t (by simp)
    unfold nodeMore
    dsimp only
    rw [if_neg h3, if_pos h89, S_list, if_neg (okW_ne ht), (numO_some ha).1, (numO_some hb).1, hw]; rfl
  rw [if_neg h89] at h
  match l, h with
  | [x], h =>
   obtain ⟨a, ha, h⟩ := Option.bind_eq_some_iff.mp h
   obtain rfl := Option.some.inj h
   unfold nodeMore
   dsimp only
   rw [if_neg h3, if_neg h89, hS, if_pos rfl, (numO_some ha).1, hw]; rfl
theorem stripP_some {p l r : List UInt8} (h : stripP p l = some r) : l = p ++ r := by
 unfold stripP at h
 split at h
 ·
  rename_i e
  obtain rfl := Option.some.inj h
  conv => lhs; rw [← List.take_append_drop p.length l, e]
 ·
  cases h
theorem stripP_hit (p r : List UInt8) : stripP p (p ++ r) = some r := by
 unfold stripP
 rw [if_pos List.take_left, List.drop_left]
theorem testL_some {r g : List UInt8} (h : testL r = some g) : r = [105, 102, 32] ++ g ∧ g ≠ [] := by
 obtain ⟨x, hx, h⟩ := Option.bind_eq_some_iff.mp h
 have := stripP_some hx
 split at h
 ·
  cases h
 ·
  rename_i hne
  obtain rfl := Option.some.inj h
  exact ⟨this, hne⟩
theorem cutG_join (c : UInt8) (l : List UInt8) (h : (cutG c l).2.2 = true) : l = (cutG c l).1 ++ c :: (cutG c l).2.1 := by
 rcases cutG_cases c l with ⟨_, e, _⟩ | ⟨a, b, _, rfl, e, _⟩
 ·
  rw [e] at h; cases h
 ·
  rw [e]
theorem cutG_whole (c : UInt8) (l : List UInt8) (h : (cutG c l).2.2 = false) : (cutG c l).1 = l ∧ (cutG c l).2.1 = [] := by
 rcases cutG_cases c l with ⟨_, e, _⟩ | ⟨a, b, _, rfl, e, _⟩
 ·
  rw [e]; exact ⟨rfl, rfl⟩
 ·
  rw [e] at h; cases h
theorem numO_nil : numO [] = none := rfl
/-- What is found behind a cut that is not empty was cut off. -/
theorem cut_found {c : UInt8} {l : List UInt8} (h : (cutG c l).2.1 ≠ []) : l = (cutG c l).1 ++ c :: (cutG c l).2.1 := by
 cases hf : (cutG c l).2.2 with
 | true => exact cutG_join c l hf
 | false => exact absurd (cutG_whole c l hf).2 h
theorem num_ne {w : List UInt8} {n : Int} (h : numO w = some n) : w ≠ [] := by
 rintro rfl; rw [numO_nil] at h; cases h
theorem flowR_text {rest : List UInt8} {f : S42} (h : flowR rest = some f) : flowText f = wFlow ++ 32 :: rest ++ [10] := by
 unfold flowR at h
 obtain ⟨a, ha, g1⟩ := Option.bind_eq_some_iff.mp h
 obtain ⟨b, hb, g2⟩ := Option.bind_eq_some_iff.mp g1
 clear h g1
 have h := g2; clear g2
 have h2ne : (cutG 32 rest).2.1 ≠ [] := by
  intro e
  rw [e] at hb
  exact num_ne hb rfl
 have h1 := cut_found h2ne
 obtain ⟨ea, _⟩ := numO_some ha
 obtain ⟨eb, _⟩ := numO_some hb
 have hS : (S []).data.toList = ([] : List UInt8) := S_list []
 have j2 : ∀ (x y z : List UInt8), Lib.join [x, y, z] [32] = x ++ 32 :: (y ++ 32 :: z) := fun x y z => by rw [join_two, join_two, Lib.join_one]
 unfold flowText lineL
 rw [show wFlow ++ 32 :: rest ++ [10] = (wFlow ++ 32 :: rest) ++ [10] from rfl]
 refine congrArg (· ++ [10]) ?_
 generalize hR : (cutG 32 rest).2.1 = R at *
 generalize hA : (cutG 32 rest).1 = X at *
 split at h
 ·
  rename_i hf
  obtain ⟨w1, w2⟩ := cutG_whole 32 R hf
  obtain rfl := Option.some.inj h
  unfold flowMore
  dsimp only
  rw [if_neg (by decide), if_neg (by decide), if_neg (by decide), List.append_nil, ea, eb, w1, j2, ← h1]
 ·
  rename_i hf
  have hf' : (cutG 32 R).2.2 = true := by cases hc : (cutG 32 R).2.2 with
   | true => rfl
   | false => exact absurd hc hf
  have h3 := cutG_join 32 R hf'
  generalize hR2 : (cutG 32 R).2.1 = R2 at *
  generalize hB : (cutG 32 R).1 = Y at *
  split at h
  ·
   rename_i hd
   obtain rfl := Option.some.inj h
   unfold flowMore
   dsimp only
   rw [if_pos rfl, ea, eb]
   show Lib.join [wFlow, X, Y, wDefault] [32] = _
   rw [join_two, join_two, join_two, Lib.join_one, ← hd, ← h3, ← h1]
  ·
   split at h
   ·
    rename_i r hr
    have h4 := stripP_some hr
    obtain ⟨m, hm, g1⟩ := Option.bind_eq_some_iff.mp h
    obtain ⟨g, hg, g2⟩ := Option.bind_eq_some_iff.mp g1
    clear h g1
    have h := g2; clear g2
    obtain rfl := Option.some.inj h
    obtain ⟨em, _⟩ := numO_some hm
    obtain ⟨h5, _⟩ := testL_some hg
    have h6 := cut_found (c := 32) (l := r) (by rw [h5]; simp)
    unfold flowMore
    dsimp only
    rw [if_neg (by decide), if_neg (by decide), if_pos rfl, ea, eb, em, S_list]
    show Lib.join [wFlow, X, Y, wAgain, (cutG 32 r).1, wIf, g] [32] = _
    rw [join_two, join_two, join_two, join_two, join_two, join_two, Lib.join_one]
    have e1 : wIf ++ 32 :: g = (cutG 32 r).2.1 := by rw [h5]; rfl
    have e2 : wAgain ++ 32 :: r = R2 := by rw [h4]; rfl
    rw [e1, ← h6, e2, ← h3, ← h1]
   ·
    obtain ⟨g, hg, h⟩ := Option.bind_eq_some_iff.mp h
    obtain rfl := Option.some.inj h
    obtain ⟨h5, _⟩ := testL_some hg
    unfold flowMore
    dsimp only
    rw [if_neg (by decide), if_pos rfl, ea, eb, S_list]
    show Lib.join [wFlow, X, Y, wIf, g] [32] = _
    rw [join_two, join_two, join_two, join_two, Lib.join_one]
    have e1 : wIf ++ 32 :: g = R2 := by rw [h5]; rfl
    rw [e1, ← h3, ← h1]
theorem stepL_ok {st st' : St} {line : List UInt8} (h : stepL st line = .ok st') :
  (∃ f, st' = (st.1, st.2 ++ [f]) ∧ flowText f = line ++ [10] ∧ (cutG 32 line).1 = wFlow ∧ flowR (cutG 32 line).2.1 = some f ∧ st.2.length < 90) ∨ (∃ n, st' = (st.1 ++ [n], st.2) ∧ nodeText n = line ++ [10] ∧ (cutG 32 line).1 ≠ wFlow ∧ nodeL line = some n ∧ st.1.length < 60 ∧ st.2 = []) := by
 unfold stepL at h
 split at h
 ·
  rename_i hw
  left
  split at h
  ·
   cases h
  ·
   rename_i f hf
   split at h
   ·
    cases h
   ·
    rename_i hl
    refine ⟨f, (Except.ok.inj h).symm, ?_, hw, hf, by omega⟩
    rw [flowR_text hf]
    have hne : (cutG 32 line).2.1 ≠ [] := by
     intro e
     rw [e] at hf
     unfold flowR at hf
     obtain ⟨a, ha, _⟩ := Option.bind_eq_some_iff.mp hf
     exact num_ne ha rfl
    have := cut_found hne
    rw [hw] at this
    rw [← this]
 ·
  rename_i hw
  right
  split at h
  ·
   cases h
  ·
   rename_i n hn
   split at h
   ·
    cases h
   ·
    split at h
    ·
     cases h
    ·
     rename_i h6 h0
     exact ⟨n, (Except.ok.inj h).symm, nodeL_text hn, hw, hn, by omega, List.eq_nil_of_length_eq_zero (by omega)⟩
/-- What lines add up to, line by line. -/
theorem goL_ok : ∀ (ls : List (List UInt8)) (i : Nat) (st st' : St), goL i st ls = .ok st' →
  ∃ ns fs, st' = (st.1 ++ ns, st.2 ++ fs) ∧ (st.2 ≠ [] → ns = []) ∧ ls.map (· ++ [10]) = ns.map nodeText ++ fs.map flowText ∧ (st.1.length ≤ 60 → st'.1.length ≤ 60) ∧ (st.2.length ≤ 90 → st'.2.length ≤ 90) := by
 intro ls
 induction ls with
 | nil =>
  intro i st st' h
  obtain rfl := Except.ok.inj h
  exact ⟨[], [], by simp, fun _ => rfl, rfl, id, id⟩
 | cons l ls ih =>
  intro i st st' h
  unfold goL at h
  split at h
  ·
   cases h
  ·
   rename_i st1 h1
   obtain ⟨ns, fs, rfl, h2, h3, h4, h5⟩ := ih _ _ _ h
   rcases stepL_ok h1 with ⟨f, rfl, hf, _, _, hl⟩ | ⟨n, rfl, hn, _, _, hl, h0⟩
   ·
    have hns : ns = [] := h2 (by simp)
    subst hns
    refine ⟨[], f :: fs, by simp, fun _ => rfl, ?_, fun h => h4 h, fun _ => h5 (by simp; omega)⟩
    rw [List.map_cons, h3, ← hf]; rfl
   ·
    refine ⟨n :: ns, fs, by simp, fun hne => absurd h0 hne, ?_, fun _ => h4 (by simp; omega), fun h => h5 h⟩
    rw [List.map_cons, h3, ← hn]; rfl
/-- The lines of a definition, each with its end. -/
def defLines (nm : List UInt8) (st : St) : List (List UInt8) := lineL [wProcess, nm] :: (st.1.map nodeText ++ st.2.map flowText)
theorem parseLs_ok {ls : List (List UInt8)} {nm : List UInt8} {st : St} (h : parseLs ls = .ok (nm, st)) : ls.map (· ++ [10]) = defLines nm st ∧ nameV nm = true ∧ st.1.length ≤ 60 ∧ st.2.length ≤ 90 := by
 match ls, h with
 | l :: ls, h =>
  change parseL1 l ls = .ok (nm, st) at h
  unfold parseL1 at h
  split at h
  ·
   rename_i hc
   split at h
   ·
    cases h
   ·
    rename_i st1 h1
    obtain ⟨hn, hs⟩ := Prod.mk.inj (Except.ok.inj h)
    subst hn hs
    obtain ⟨ns, fs, rfl, _, h3, h4, h5⟩ := goL_ok _ _ _ _ h1
    refine ⟨?_, hc.2, h4 (by simp), h5 (by simp)⟩
    unfold defLines
    rw [List.map_cons, h3, List.nil_append, List.nil_append]
    refine congrArg (· :: _) ?_
    have hne : (cutG 32 l).2.1 ≠ [] := by
     intro e
     have := hc.2
     rw [e] at this
     cases this
    have := cut_found hne
    unfold lineL
    rw [join_two, Lib.join_one, ← hc.1, ← this]
  ·
   cases h
theorem unl_map (ls : List (List UInt8)) : unl ls = (ls.map (· ++ [10])).flatten := by unfold unl; rw [List.flatMap_def]
/-- What can be parsed is the text of what it is parsed to. -/
theorem parseT_ok {t nm : List UInt8} {st : St} (h : parseT t = .ok (nm, st)) : t = defText (S nm) st.1 st.2 ∧ nameV nm = true ∧ st.1.length ≤ 60 ∧ st.2.length ≤ 90 ∧ (linesL t).2 = 0 ∧ (linesL t).1.map (· ++ [10]) = defLines nm st ∧ t.length ≤ 6000 := by
 unfold parseT at h
 split at h
 ·
  rename_i hl
  obtain ⟨h1, h2, h3, h4⟩ := parseLs_ok h
  obtain ⟨k1, k2, k3, k4⟩ := lines_ok t hl
  refine ⟨?_, h2, h3, h4, hl, h1, k1⟩
  have hu := unl_lines t k3
  rw [show (pieces 10 t).dropLast = (linesL t).1 by rw [k4]] at hu
  rw [unl_map, h1] at hu
  rw [← hu]
  unfold defLines defText nodesText flowsText
  rw [List.flatten_cons, List.flatten_append, S_list, List.append_assoc]
 ·
  cases h
end Go.Proofs.YtpalncojmknlbaaDoor.Pure
