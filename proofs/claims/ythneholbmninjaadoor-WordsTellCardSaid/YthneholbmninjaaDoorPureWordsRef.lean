/- The reference's Lines, Texts, Split, Join, and words.Split: what they compute, in plain words. -/
import Derived.Test.YthneholbmninjaaDoorQx4
import Derived.Test.YthneholbmninjaaDoorPureWordsBase
namespace Go.Proofs.YthneholbmninjaaDoor.Pure
open Go.RowKit Go.Proofs.YthneholbmninjaaDoorW.PrintWords Go.Proofs.YthneholbmninjaaDoor.Ext Go.Proofs.YthneholbmninjaaDoor.Q Go.Proofs.YthneholbmninjaaDoor.Span
set_option linter.unusedVariables false

theorem drop_nil' {α : Type} (l : List α) (i : Nat) (h : l.length ≤ i) : l.drop i = [] := List.drop_eq_nil_of_le h
theorem drop_getD (l : List UInt8) (i : Nat) (h : i < l.length) : l.drop i = l.getD i 0 :: l.drop (i + 1) := by
  rw [List.drop_eq_getElem_cons h, List.getD_eq_getElem?_getD, List.getElem?_eq_getElem h]; rfl
theorem take_getD (l : List UInt8) (i a : Nat) (h : i < l.length) (ha : a ≤ i) : (l.take (i + 1)).drop a = (l.take i).drop a ++ [l.getD i 0] := by
  rw [List.take_succ_eq_append_getElem h, List.drop_append_of_le_length (by rw [List.length_take]; omega), List.getD_eq_getElem?_getD, List.getElem?_eq_getElem h]; rfl
/-! ### The reference's Lines -/
theorem ref_l0 (l : List UInt8) (hl : l.length ≤ 6000) : ∀ m i k : Nat, l.length - i = m → i ≤ l.length → m < k → ∀ (a : Nat) (acc : List (List UInt8)), a ≤ i → acc.length ≤ i →
    remontoirref16_Lines.l0 k (S l) (acc.map S) (a : Int) (i : Int) = VL (refGo acc ((l.take i).drop a) (l.drop i)) := by
  intro m
  induction m with
  | zero =>
    intro i k hm hi hk a acc ha hacc
    obtain ⟨k, rfl⟩ : ∃ i, k = i + 1 := ⟨k - 1, by omega⟩
    simp only [remontoirref16_Lines.l0]
    rw [S_size, if_neg (by omega), drop_nil' l i (by omega), List.take_of_length_le (by omega), refGo]
    by_cases h : l.drop a = []
    · have := List.drop_eq_nil_iff.mp h
      rw [if_pos (by omega), if_pos h]; rfl
    · have : ¬ l.length ≤ a := fun h' => h (List.drop_eq_nil_iff.mpr h')
      rw [if_neg (by omega), if_neg h]; rfl
  | succ m ih =>
    intro i k hm hi hk a acc ha hacc
    obtain ⟨k, rfl⟩ : ∃ i, k = i + 1 := ⟨k - 1, by omega⟩
    have hil : i < l.length := by omega
    have hw := wrapS i (by omega)
    simp only [remontoirref16_Lines.l0]
    rw [S_size, if_pos (by omega), if_pos (by omega), S_bt, hw, drop_getD l i hil, refGo]
    by_cases h10 : l.getD i 0 = 10
    · rw [if_pos ((is10 _).mpr h10), if_pos (by omega), if_pos (by omega), if_pos (by omega), if_pos (by rw [List.length_map]; omega), if_pos h10, Int.toNat_natCast, Int.toNat_natCast, S_mid]
      have e : (acc.map S ++ [S ((l.take i).drop a)]) = (acc ++ [(l.take i).drop a]).map S := by rw [List.map_append]; rfl
      have := ih (i + 1) k (by omega) (by omega) (by omega) (i + 1) (acc ++ [(l.take i).drop a]) (Nat.le_refl _) (by rw [List.length_append, List.length_singleton]; omega)
      rw [drop_nil' (l.take (i + 1)) (i + 1) (by rw [List.length_take]; omega)] at this
      rw [e]
      exact this
    · rw [if_neg (fun e => h10 ((is10 _).mp e)), if_neg h10]
      by_cases hb : 32 ≤ (l.getD i 0).toNat ∧ (l.getD i 0).toNat ≤ 126
      · rw [if_neg (by omega), if_neg (by omega), if_pos hb, ← take_getD l i a hil ha]
        exact ih (i + 1) k (by omega) (by omega) (by omega) a acc (by omega) (by omega)
      · rw [if_neg hb]
        by_cases h32 : ((l.getD i 0).toNat : Int) < 32
        · rw [if_pos h32]; rfl
        · rw [if_neg h32, if_pos (by omega)]; rfl
theorem ref_lines_f (l : List UInt8) (k : Nat) (hk : l.length + 3 < k) : remontoirref16_Lines.f k (S l) = VL (linesL l) := by
  unfold remontoirref16_Lines.f linesL
  rw [S_size]
  by_cases h6 : 6000 < l.length
  · rw [if_pos (by omega), if_pos h6]; rfl
  rw [if_neg (by omega), if_neg h6]
  have := ref_l0 l (by omega) l.length 0 k rfl (by omega) (by omega) 0 [] (Nat.le_refl _) (Nat.le_refl _)
  rw [List.take_zero, List.drop_nil, List.drop_zero, refGo_eq l [] [] (by simp), List.nil_append, List.nil_append] at this
  exact this
/-! ### Texts -/
theorem text_eq (x y : ByteArray) : x.toList = y.toList ↔ x = y := by
  rw [Lib.toList_data, Lib.toList_data]
  constructor
  · intro h; rw [← S_of x, ← S_of y, h]
  · intro h; rw [h]
theorem rd_at (xs : List ByteArray) (j : Nat) (h : j < xs.length) : rdOf ByteArray.empty xs (j : Int) = xs[j] := by
  unfold rdOf; rw [Int.toNat_natCast, List.getD_eq_getElem?_getD, List.getElem?_eq_getElem h]; rfl
theorem texts_l0 (xs ys : List ByteArray) (h : xs.length = ys.length) (hl : xs.length ≤ 1000000) : ∀ m j k : Nat, xs.length - j = m → j ≤ xs.length → m < k →
    remontoirkeep_Texts.l0 k xs ys (j : Int) = some (decide (xs.drop j = ys.drop j)) := by
  intro m
  induction m with
  | zero =>
    intro j k hm hj hk
    obtain ⟨k, rfl⟩ : ∃ i, k = i + 1 := ⟨k - 1, by omega⟩
    simp only [remontoirkeep_Texts.l0]
    rw [if_neg (by omega), drop_nil' xs j (by omega), drop_nil' ys j (by omega)]; rfl
  | succ m ih =>
    intro j k hm hj hk
    obtain ⟨k, rfl⟩ : ∃ i, k = i + 1 := ⟨k - 1, by omega⟩
    have hw := wrapS j (by omega)
    simp only [remontoirkeep_Texts.l0]
    rw [if_pos (by omega), if_pos (by omega), if_pos (by omega), rd_at xs j (by omega), rd_at ys j (by omega), hw, List.drop_eq_getElem_cons (show j < xs.length by omega), List.drop_eq_getElem_cons (show j < ys.length by omega)]
    by_cases he : xs[j] = ys[j]
    · rw [if_pos ((text_eq _ _).mpr he), ih (j + 1) k (by omega) (by omega) (by omega), he]
      exact congrArg some (decide_eq_decide.mpr ⟨fun h => by rw [h], fun h => (List.cons.inj h).2⟩)
    · rw [if_neg (fun e => he ((text_eq _ _).mp e)), decide_eq_false (by intro e; exact he (List.cons.inj e).1)]
theorem texts_f (xs ys : List ByteArray) (hl : xs.length ≤ 1000000) (k : Nat) (hk : xs.length < k) : remontoirkeep_Texts.f k xs ys = some (decide (xs = ys)) := by
  unfold remontoirkeep_Texts.f
  by_cases h : xs.length = ys.length
  · rw [if_pos (by omega)]
    exact texts_l0 xs ys h hl xs.length 0 k rfl (by omega) hk
  · rw [if_neg (by omega), decide_eq_false (fun e => h (by rw [e]))]
/-! ### Words -/
def okWord (c : UInt8) : Bool := 33 ≤ c.toNat && c.toNat ≤ 126
theorem okWord_iff (c : UInt8) : okWord c = true ↔ 33 ≤ c.toNat ∧ c.toNat ≤ 126 := by
  unfold okWord; rw [Bool.and_eq_true, decide_eq_true_eq, decide_eq_true_eq]
theorem okWord_32 : okWord 32 = false := rfl
def okW (x : List UInt8) : Bool := !x.isEmpty && x.all okWord
theorem set_last {α : Type} (acc : List α) (x y : α) : (acc ++ [x]).set ((acc ++ [x]).length - 1) y = acc ++ [y] := by
  rw [List.length_append, List.length_singleton, Nat.add_sub_cancel, List.set_append_right _ _ (Nat.le_refl _), Nat.sub_self]; rfl
theorem rd_last (acc : List ByteArray) (x : ByteArray) : rdOf ByteArray.empty (acc ++ [x]) (((acc ++ [x]).length - 1 : Nat) : Int) = x := by
  rw [rd_at _ _ (by rw [List.length_append, List.length_singleton]; omega)]
  simp
theorem snoc_byte (cur : List UInt8) (c : UInt8) : (S cur ++ ⟨#[c]⟩ : ByteArray) = S (cur ++ [c]) := S_append cur [c]
theorem no_snoc (cur : List UInt8) (c b : UInt8) (h : ∀ d ∈ cur, d ≠ b) (hc : c ≠ b) : ∀ d ∈ cur ++ [c], d ≠ b := by
  intro d hd
  rcases List.mem_append.1 hd with hd | hd
  · exact h d hd
  · rw [List.mem_singleton.1 hd]; exact hc
theorem splitGo_eq (r : List UInt8) : ∀ (acc : List ByteArray) (cur : List UInt8), (∀ d ∈ cur, d ≠ 32) →
    splitGo r (acc ++ [S cur]) = if r.all (fun d => d == 32 || okWord d) = true then some (acc ++ (pieces 32 (cur ++ r)).map S) else none := by
  induction r with
  | nil =>
    intro acc cur h
    rw [List.append_nil, pieces_none 32 cur h, splitGo, if_pos (by rfl)]; rfl
  | cons c r ih =>
    intro acc cur h
    rw [splitGo]
    by_cases h32 : c = 32
    · have := ih (acc ++ [S cur]) [] (by simp)
      rw [if_pos h32, h32, empty_S, this, List.all_cons, pieces_hit 32 cur r h, List.nil_append, beq_self_eq_true, Bool.true_or, Bool.true_and, List.append_assoc]
      rfl
    · have hb32 : (c == 32) = false := beq_eq_false_iff_ne.mpr h32
      rw [if_neg h32]
      by_cases hb : 33 ≤ c.toNat ∧ c.toNat ≤ 126
      · rw [if_pos hb, rd_last, set_last, snoc_byte, ih acc (cur ++ [c]) (no_snoc cur c 32 h h32), List.all_cons, (okWord_iff c).mpr hb, Bool.or_true, Bool.true_and, List.append_assoc]
        rfl
      · have hnw : okWord c = false := by rw [← Bool.not_eq_true, okWord_iff]; exact hb
        rw [if_neg hb, List.all_cons, hb32, hnw, Bool.or_false, Bool.false_and, if_neg (by decide)]
theorem ne_map (xs : List (List UInt8)) : (xs.map S).all (fun x => !x.data.toList.isEmpty) = xs.all (fun x => !x.isEmpty) := by
  induction xs with
  | nil => rfl
  | cons x xs ih => rw [List.map_cons, List.all_cons, List.all_cons, ih, S_list]
theorem okW_all (xs : List (List UInt8)) : xs.all okW = (xs.all (fun x => x.all okWord) && xs.all (fun x => !x.isEmpty)) := by
  induction xs with
  | nil => rfl
  | cons x xs ih =>
    rw [List.all_cons, List.all_cons, List.all_cons, ih]
    unfold okW
    cases x.isEmpty <;> cases x.all okWord <;> cases xs.all (fun x => x.all okWord) <;> rfl
/-- The words of a line. -/
def wordsL (l : List UInt8) : List (List UInt8) × Bool := if (pieces 32 l).all okW = true then (pieces 32 l, true) else ([], false)
theorem splitAll_eq (l : List UInt8) : splitAll l = ((wordsL l).1.map S, (wordsL l).2) := by
  unfold splitAll wordsL
  have h := splitGo_eq l [] [] (by simp)
  rw [List.nil_append, List.nil_append, List.nil_append] at h
  have h' : splitGo l [(⟨#[]⟩ : ByteArray)] = _ := h
  rw [h', okW_all, pieces_all 32 okWord okWord_32]
  cases hb : l.all (fun d => d == 32 || okWord d) with
  | false => rfl
  | true =>
    rw [if_pos rfl, Bool.true_and]
    dsimp only
    unfold splitEnd
    rw [ne_map]
    split <;> rfl
theorem split_f (l : List UInt8) (hl : l.length ≤ 1000000) : words_Split.f (S l) = some ((wordsL l).1.map S, (wordsL l).2) := by
  unfold words_Split.f
  rw [S_size, if_pos hl, S_list, splitAll_eq]
end Go.Proofs.YthneholbmninjaaDoor.Pure
