/- Words glued with blanks, and cut again: plain lists. words.Join, the reference's Number and Name: what they compute. -/
import Derived.Test.YthneholbmninjaaDoorSx3
import Derived.Test.YthneholbmninjaaDoorPureWordsLines
import Derived.Lib.Join
namespace Go.Proofs.YthneholbmninjaaDoor.Pure
open Go.RowKit Go.Proofs.YthneholbmninjaaDoorW.PrintWords Go.Proofs.YthneholbmninjaaDoor.Ext Go.Proofs.YthneholbmninjaaDoor.Q Go.Proofs.YthneholbmninjaaDoor.S Go.Proofs.YthneholbmninjaaDoor.Span
set_option linter.unusedVariables false

theorem glue_true (r : List (List UInt8)) : ∀ s : List UInt8, glueGo s true r = s ++ Lib.joinTail [32] r := by
  induction r with
  | nil => intro s; simp [glueGo, Lib.joinTail]
  | cons x r ih =>
    intro s
    rw [glueGo, if_pos rfl, ih]
    simp [Lib.joinTail]
theorem glue_join (xs : List (List UInt8)) : glueGo [] false xs = Lib.join xs [32] := by
  cases xs with
  | nil => rfl
  | cons x r =>
    rw [glueGo, if_neg (by decide), List.nil_append, glue_true, Lib.join_cons]
theorem join_two (x y : List UInt8) (r : List (List UInt8)) : Lib.join (x :: y :: r) [32] = x ++ 32 :: Lib.join (y :: r) [32] := by
  rw [Lib.join_cons, Lib.join_cons]; simp [Lib.joinTail]
theorem pieces_join (xs : List (List UInt8)) : xs ≠ [] → (∀ x ∈ xs, ∀ d ∈ x, d ≠ 32) → pieces 32 (Lib.join xs [32]) = xs := by
  induction xs with
  | nil => intro h; exact absurd rfl h
  | cons x r ih =>
    intro _ h
    cases r with
    | nil => rw [Lib.join_one, pieces_none 32 x (h x (by simp))]
    | cons y r =>
      rw [join_two, pieces_hit 32 x _ (h x (by simp)), ih (by simp) (fun z hz => h z (by simp [hz]))]
theorem join_pieces (l : List UInt8) : Lib.join (pieces 32 l) [32] = l := by
  induction l with
  | nil => rfl
  | cons d l ih =>
    rw [pieces]
    by_cases h : d = 32
    · rw [if_pos h]
      cases hp : pieces 32 l with
      | nil => exact absurd hp (pieces_ne 32 l)
      | cons p ps => rw [join_two, ← hp, ih, h]; rfl
    · rw [if_neg h]
      cases hp : pieces 32 l with
      | nil => exact absurd hp (pieces_ne 32 l)
      | cons p ps =>
        dsimp only
        rw [hp, Lib.join_cons] at ih
        rw [Lib.join_cons, List.cons_append, ih]
theorem total_join (xs : List (List UInt8)) : (Lib.join xs [32]).length ≤ total xs := by
  induction xs with
  | nil => exact Nat.zero_le _
  | cons x r ih =>
    rw [total_cons]
    cases r with
    | nil => rw [Lib.join_one]; omega
    | cons y r => rw [join_two, List.length_append, List.length_cons]; omega
theorem total_le (xs : List (List UInt8)) (B : Nat) (h : ∀ x ∈ xs, x.length ≤ B) : total xs ≤ xs.length * (B + 1) := by
  induction xs with
  | nil => exact Nat.zero_le _
  | cons x r ih =>
    have h1 := h x (by simp)
    have h2 := ih (fun y hy => h y (by simp [hy]))
    rw [total_cons, List.length_cons, Nat.add_mul, Nat.one_mul]; omega
theorem okW_no32 (xs : List (List UInt8)) (h : xs.all okW = true) : ∀ x ∈ xs, ∀ d ∈ x, d ≠ 32 := by
  intro x hx d hd e
  have h1 := List.all_eq_true.mp h x hx
  unfold okW at h1
  rw [Bool.and_eq_true] at h1
  have h2 := List.all_eq_true.mp h1.2 d hd
  rw [e, okWord_32] at h2
  cases h2
/-! ### words.Join -/
theorem in_s (c a b : Int) : S.words_in.f c a b = some (decide (a ≤ c ∧ c ≤ b)) := by
  unfold S.words_in.f
  by_cases h : a ≤ c
  · rw [if_pos h]
    by_cases h2 : c ≤ b
    · rw [decide_eq_true h2, decide_eq_true ⟨h, h2⟩]
    · rw [decide_eq_false h2, decide_eq_false (fun x => h2 x.2)]
  · rw [if_neg h, decide_eq_false (fun x => h x.1)]
theorem wj_l1 (X : List ByteArray) (n : Int) (j : Int) (x : List UInt8) (hx : x.length ≤ 100000000) (kmin : Nat) (R : Option (ByteArray × Bool)) (hR : ∀ k, kmin ≤ k → S.words_Join.l0 k X X n (wrap64 (j + 1)) = R) :
    ∀ m i k : Nat, x.length - i = m → i ≤ x.length → m + kmin < k → (x.take i).all okWord = true →
      S.words_Join.l1 k X (S x) X n j (x.length : Int) (i : Int) = if okW x = true then R else some (S [], false) := by
  intro m
  induction m with
  | zero =>
    intro i k hm hi hk ha
    obtain ⟨k, rfl⟩ : ∃ i, k = i + 1 := ⟨k - 1, by omega⟩
    rw [List.take_of_length_le (by omega)] at ha
    have hRk := hR k (by omega)
    simp only [S.words_Join.l1]
    rw [if_neg (by omega), hRk, Lib.toList_data, S_list]
    unfold okW
    rw [ha, Bool.and_true]
    cases x with
    | nil => rfl
    | cons c x => rw [if_neg (by simp)]; rfl
  | succ m ih =>
    intro i k hm hi hk ha
    obtain ⟨k, rfl⟩ : ∃ i, k = i + 1 := ⟨k - 1, by omega⟩
    have hil : i < x.length := by omega
    have hih := fun hq => ih (i + 1) k (by omega) (by omega) (by omega) hq
    have hw := wrapS i (by omega)
    simp only [S.words_Join.l1]
    rw [if_pos (by omega), if_pos (by omega), if_pos (by rw [S_size]; omega), S_bt, hw, in_s, Option.bind_some]
    by_cases hb : okWord (x.getD i 0) = true
    · have h2 := (okWord_iff _).mp hb
      rw [decide_eq_true (by omega), if_pos rfl]
      refine hih ?_
      rw [List.take_succ_eq_append_getElem hil, List.all_append, ha, Bool.true_and]
      rw [List.getD_eq_getElem?_getD, List.getElem?_eq_getElem hil] at hb
      simpa using hb
    · have h2 : ¬ (33 ≤ (x.getD i 0).toNat ∧ (x.getD i 0).toNat ≤ 126) := fun h => hb ((okWord_iff _).mpr h)
      have hno : ¬ (okW x = true) := by
        intro h
        unfold okW at h
        rw [Bool.and_eq_true] at h
        have := List.all_eq_true.mp h.2 _ (List.getElem_mem hil)
        rw [List.getD_eq_getElem?_getD, List.getElem?_eq_getElem hil] at hb
        exact hb this
      rw [decide_eq_false (by omega), if_neg (by decide), if_neg hno]; rfl
def WJ (xs : List (List UInt8)) : Option (ByteArray × Bool) := if xs.all okW = true then some (S (Lib.join xs [32]), decide (0 < xs.length)) else some (S [], false)
theorem map_data (xs : List (List UInt8)) : (xs.map S).map (·.data.toList) = xs := by
  rw [List.map_map]
  have : ((fun x : ByteArray => x.data.toList) ∘ S) = id := by funext x; exact S_list x
  rw [this, List.map_id]
theorem wj_l0 (xs : List (List UInt8)) (hn : xs.length ≤ 1000000) (ht : total xs ≤ 100000000) : ∀ m j k : Nat, xs.length - j = m → j ≤ xs.length → 2 * m + total (xs.drop j) + 2 < k →
    S.words_Join.l0 k (xs.map S) (xs.map S) (xs.length : Int) (j : Int) = if (xs.drop j).all okW = true then some (S (Lib.join xs [32]), decide (0 < xs.length)) else some (S [], false) := by
  intro m
  induction m with
  | zero =>
    intro j k hm hj hk
    obtain ⟨k, rfl⟩ : ∃ i, k = i + 1 := ⟨k - 1, by omega⟩
    have hlj := total_join xs
    have hsj : strings_Join.f (xs.map S) (⟨#[32]⟩ : ByteArray) = some (S (Lib.join xs [32])) := by
      unfold strings_Join.f
      rw [map_data]
      rw [if_pos ⟨by rw [List.length_map]; exact hn, by show (Lib.join xs [32]).length ≤ _; omega⟩]
      rfl
    simp only [S.words_Join.l0]
    rw [if_neg (by omega), drop_nil' xs j (by omega), hsj, Option.bind_some, List.length_map]
    rw [show decide ((xs.length : Int) > 0) = decide (0 < xs.length) from decide_eq_decide.mpr (by omega)]
    rfl
  | succ m ih =>
    intro j k hm hj hk
    obtain ⟨k, rfl⟩ : ∃ i, k = i + 1 := ⟨k - 1, by omega⟩
    have hjl : j < xs.length := by omega
    have hd : xs.drop j = xs[j] :: xs.drop (j + 1) := List.drop_eq_getElem_cons hjl
    have hxt : (xs[j]).length + 1 + total (xs.drop (j + 1)) = total (xs.drop j) := by rw [hd, total_cons]
    have hxm : (xs[j]).length + 1 ≤ total xs := by
      have h1 : total xs = total (xs.take j) + total (xs.drop j) := by
        conv => lhs; rw [← List.take_append_drop j xs]
        unfold total; rw [List.map_append, List.sum_append]
      omega
    rw [hd, List.all_cons]
    generalize hx : xs[j] = x at *
    have hrd : rdOf ByteArray.empty (xs.map S) (j : Int) = S x := by
      rw [rd_at _ _ (by rw [List.length_map]; exact hjl), List.getElem_map, hx]
    have hw := wrapS j (by omega)
    have h1 := wj_l1 (xs.map S) (xs.length : Int) (j : Int) x (by omega) (2 * m + total (xs.drop (j + 1)) + 3) _ (fun k' hk' => by rw [hw]; exact ih (j + 1) k' (by omega) (by omega) (by omega)) x.length 0 k (by omega) (by omega) (by omega) rfl
    simp only [S.words_Join.l0]
    rw [if_pos (by omega), if_pos (by omega), if_pos (by rw [List.length_map]; omega), hrd, S_size]
    refine Eq.trans h1 ?_
    cases okW x with
    | true => rw [Bool.true_and]; rfl
    | false => rfl
theorem wj_f (xs : List (List UInt8)) (hn : xs.length ≤ 1000000) (ht : total xs ≤ 100000000) (k : Nat) (hk : 2 * xs.length + total xs + 2 < k) : S.words_Join.f k (xs.map S) = WJ xs := by
  unfold S.words_Join.f WJ
  rw [List.length_map]
  have := wj_l0 xs hn ht xs.length 0 k rfl (by omega) (by rw [List.drop_zero]; exact hk)
  rw [List.drop_zero] at this
  exact this
theorem rj_f (xs : List (List UInt8)) (hn : xs.length ≤ 1000000) (ht : total xs ≤ 100000000) (k : Nat) (hk : 2 * xs.length + total xs + 2 < k) : remontoirref16_Join.f k (xs.map S) = WJ xs := by
  by_cases h0 : xs = []
  · subst h0
    unfold remontoirref16_Join.f
    rfl
  · rw [join_f xs h0 hn ht k hk]
    unfold VJ WJ
    rw [glue_join]
    have : 0 < xs.length := List.length_pos_iff.mpr h0
    rw [decide_eq_true this]
/-! ### The reference's Number and Name -/
theorem all_take (l : List UInt8) (p : UInt8 → Bool) (i : Nat) (hil : i < l.length) (ha : (l.take i).all p = true) (hb : p (l.getD i 0) = true) : (l.take (i + 1)).all p = true := by
  rw [List.take_succ_eq_append_getElem hil, List.all_append, ha, Bool.true_and]
  rw [List.getD_eq_getElem?_getD, List.getElem?_eq_getElem hil] at hb
  simpa using hb
theorem not_all_at (l : List UInt8) (p : UInt8 → Bool) (i : Nat) (hil : i < l.length) (hb : ¬ p (l.getD i 0) = true) : ¬ l.all p = true := by
  intro h
  have := List.all_eq_true.mp h _ (List.getElem_mem hil)
  rw [List.getD_eq_getElem?_getD, List.getElem?_eq_getElem hil] at hb
  exact hb this
theorem val_snoc' (t : List UInt8) (j : Nat) (h : j < t.length) : val (t.take (j + 1)) = val (t.take j) * 10 + ((t.getD j 0).toNat - 48) := by
  unfold val
  rw [List.take_succ_eq_append_getElem h, valA_snoc, List.getD_eq_getElem?_getD, List.getElem?_eq_getElem h]; rfl
theorem step9 (v c : Nat) (hv : v < 1000000000000000) (h1 : 48 ≤ c) (h2 : c ≤ 57) : wrap64 (wrap64 (10 * (v : Int)) + (((c : Int) - 48) % 256)) = ((v * 10 + (c - 48) : Nat) : Int) := by
  have e1 : wrap64 (10 * (v : Int)) = 10 * (v : Int) := by unfold wrap64; omega
  have e2 : ((c : Int) - 48) % 256 = (c : Int) - 48 := by omega
  rw [e1, e2]
  unfold wrap64
  omega
theorem rn_l0 (l : List UInt8) (most : Int) (h1 : 1 ≤ l.length) (h9 : l.length ≤ 9) (h0 : ¬ (l.getD 0 0 = 48 ∧ 1 < l.length)) :
    ∀ m j k : Nat, l.length - j = m → j ≤ l.length → (l.take j).all isD = true → m < k → S.remontoirref16_Number.l0 k (S l) most ((val (l.take j) : Nat) : Int) (j : Int) = some (numV l most) := by
  intro m
  induction m with
  | zero =>
    intro j k hm hj ha hk
    obtain ⟨k, rfl⟩ : ∃ i, k = i + 1 := ⟨k - 1, by omega⟩
    rw [List.take_of_length_le (by omega)] at ha
    have hv : numV l most = if (val l : Int) ≤ most then ((val l : Int), true) else (0, false) := by
      unfold numV
      rw [if_neg (by rintro (h | h | h | h) <;> first | omega | exact h0 h | exact h ha)]
    simp only [S.remontoirref16_Number.l0]
    rw [S_size, if_neg (by omega), List.take_of_length_le (show l.length ≤ j by omega), hv]
    by_cases hc : (val l : Int) ≤ most
    · rw [if_pos hc, if_neg (by omega)]
    · rw [if_neg hc, if_pos (by omega)]
  | succ m ih =>
    intro j k hm hj ha hk
    obtain ⟨k, rfl⟩ : ∃ i, k = i + 1 := ⟨k - 1, by omega⟩
    have hjl : j < l.length := by omega
    have hw := wrapS j (by omega)
    have hvl : val (l.take j) < 1000000000000000 := val_lt _ (fun c hc => List.all_eq_true.mp ha c hc) (by rw [List.length_take]; omega)
    have hsn := val_snoc' l j hjl
    simp only [S.remontoirref16_Number.l0]
    rw [S_size, if_pos (by omega), if_pos (by omega), S_bt, hw]
    by_cases hd : isD (l.getD j 0) = true
    · have hi := (isD_iff _).mp hd
      have hih := ih (j + 1) k (by omega) (by omega) (all_take l isD j hjl ha hd) (by omega)
      have e : wrap64 (wrap64 (10 * ((val (l.take j) : Nat) : Int)) + ((((l.getD j 0).toNat : Int) - 48) % 256)) = ((val (l.take (j + 1)) : Nat) : Int) := by
        rw [hsn]; exact step9 _ _ hvl (by omega) (by omega)
      rw [if_neg (by omega), if_neg (by omega), e]
      exact hih
    · have hi : ¬ (48 ≤ ((l.getD j 0).toNat : Int) ∧ ((l.getD j 0).toNat : Int) ≤ 57) := fun h => hd ((isD_iff _).mpr h)
      rw [num_no l most (Or.inr (Or.inr (Or.inr (not_all_at l isD j hjl hd))))]
      by_cases h48 : ((l.getD j 0).toNat : Int) < 48
      · rw [if_pos h48]
      · rw [if_neg h48, if_pos (by omega)]
theorem rn_f (l : List UInt8) (most : Int) (k : Nat) (hk : l.length + 3 < k) : S.remontoirref16_Number.f k (S l) most = some (numV l most) := by
  obtain ⟨k, rfl⟩ : ∃ i, k = i + 1 := ⟨k - 1, by omega⟩
  unfold S.remontoirref16_Number.f
  rw [S_size]
  by_cases h1 : l.length < 1
  · rw [if_pos (by omega), num_no l most (Or.inl h1)]
    simp only [S.remontoirref16_Number.j0, if_true]
  rw [if_neg (by omega)]
  by_cases h9 : 9 < l.length
  · rw [if_pos (by omega), num_no l most (Or.inr (Or.inl h9))]
    simp only [S.remontoirref16_Number.j0, if_true]
  rw [if_neg (by omega)]
  have h0 : bt (S l) 0 = ((l.getD 0 0).toNat : Int) := S_bt l 0
  have hgo : ¬ (l.getD 0 0 = 48 ∧ 1 < l.length) → S.remontoirref16_Number.j0 (k + 1) (S l) most false = some (numV l most) := by
    intro hn
    simp only [S.remontoirref16_Number.j0]
    rw [if_neg (by decide)]
    exact rn_l0 l most (by omega) (by omega) hn l.length 0 k (by omega) (by omega) rfl (by omega)
  by_cases hl : 1 < l.length
  · rw [if_pos (by omega), if_pos (by omega), h0]
    by_cases h48 : l.getD 0 0 = 48
    · rw [beq_iff_eq.mpr ((is48 _).mpr h48), num_no l most (Or.inr (Or.inr (Or.inl ⟨h48, hl⟩)))]
      simp only [S.remontoirref16_Number.j0, if_true]
    · rw [beq_eq_false_iff_ne.mpr (fun e => h48 ((is48 _).mp e))]
      exact hgo (fun h => h48 h.1)
  · rw [if_neg (by omega)]
    exact hgo (fun h => hl h.2)
def okN (c : UInt8) : Bool := (97 ≤ c.toNat && c.toNat ≤ 122) || (48 ≤ c.toNat && c.toNat ≤ 57)
theorem okN_iff (c : UInt8) : okN c = true ↔ (97 ≤ (c.toNat : Int) ∧ (c.toNat : Int) ≤ 122) ∨ (48 ≤ (c.toNat : Int) ∧ (c.toNat : Int) ≤ 57) := by
  unfold okN; rw [Bool.or_eq_true, Bool.and_eq_true, Bool.and_eq_true, decide_eq_true_eq, decide_eq_true_eq, decide_eq_true_eq, decide_eq_true_eq]; omega
def nameV (l : List UInt8) : Bool := l.all okN && (1 ≤ l.length && l.length ≤ 20)
theorem nameV_end (l : List UInt8) (ha : l.all okN = true) : (if ((S l).size : Int) ≥ 1 then (some (decide (((S l).size : Int) ≤ 20))) else (some false)) = some (nameV l) := by
  unfold nameV
  rw [ha, Bool.true_and, S_size]
  by_cases h : (l.length : Int) ≥ 1
  · rw [if_pos h, decide_eq_true (show 1 ≤ l.length by omega), Bool.true_and, show decide ((l.length : Int) ≤ 20) = decide (l.length ≤ 20) from decide_eq_decide.mpr (by omega)]
  · rw [if_neg h, decide_eq_false (show ¬ 1 ≤ l.length by omega), Bool.false_and]
theorem nameV_no (l : List UInt8) (ha : ¬ l.all okN = true) : nameV l = false := by
  unfold nameV; rw [Bool.eq_false_iff.mpr ha, Bool.false_and]
theorem wn_l0 (l : List UInt8) (hl : l.length ≤ 1000000) : ∀ m j k : Nat, l.length - j = m → j ≤ l.length → (l.take j).all okN = true → m < k → words_Name.l0 k (S l) (l.length : Int) (j : Int) = some (nameV l) := by
  intro m
  induction m with
  | zero =>
    intro j k hm hj ha hk
    obtain ⟨k, rfl⟩ : ∃ i, k = i + 1 := ⟨k - 1, by omega⟩
    rw [List.take_of_length_le (by omega)] at ha
    simp only [words_Name.l0]
    rw [if_neg (by omega)]
    exact nameV_end l ha
  | succ m ih =>
    intro j k hm hj ha hk
    obtain ⟨k, rfl⟩ : ∃ i, k = i + 1 := ⟨k - 1, by omega⟩
    have hjl : j < l.length := by omega
    have hw := wrapS j (by omega)
    have hih := fun hd => ih (j + 1) k (by omega) (by omega) (all_take l okN j hjl ha hd) (by omega)
    simp only [words_Name.l0]
    rw [if_pos (by omega), if_pos (by omega), if_pos (by rw [S_size]; omega), S_bt, hw, in_f, Option.bind_some, in_f, Option.bind_some]
    by_cases h1 : 97 ≤ ((l.getD j 0).toNat : Int) ∧ ((l.getD j 0).toNat : Int) ≤ 122
    · rw [decide_eq_true h1, if_pos rfl]
      exact hih ((okN_iff _).mpr (Or.inl h1))
    · rw [decide_eq_false h1, if_neg (by decide)]
      by_cases h2 : 48 ≤ ((l.getD j 0).toNat : Int) ∧ ((l.getD j 0).toNat : Int) ≤ 57
      · rw [decide_eq_true h2, if_pos rfl]
        exact hih ((okN_iff _).mpr (Or.inr h2))
      · rw [decide_eq_false h2, if_neg (by decide), nameV_no l (not_all_at l okN j hjl (fun h => by rcases (okN_iff _).mp h with h | h; exact h1 h; exact h2 h))]
theorem wn_f (l : List UInt8) (hl : l.length ≤ 1000000) (k : Nat) (hk : l.length < k) : words_Name.f k (S l) = some (nameV l) := by
  unfold words_Name.f
  rw [S_size]
  exact wn_l0 l hl l.length 0 k (by omega) (by omega) rfl hk
theorem rnm_l0 (l : List UInt8) (hl : l.length ≤ 1000000) : ∀ m j k : Nat, l.length - j = m → j ≤ l.length → (l.take j).all okN = true → m < k → S.remontoirref16_Name.l0 k (S l) (j : Int) = some (nameV l) := by
  intro m
  induction m with
  | zero =>
    intro j k hm hj ha hk
    obtain ⟨k, rfl⟩ : ∃ i, k = i + 1 := ⟨k - 1, by omega⟩
    rw [List.take_of_length_le (by omega)] at ha
    simp only [S.remontoirref16_Name.l0]
    rw [if_neg (by rw [S_size]; omega)]
    exact nameV_end l ha
  | succ m ih =>
    intro j k hm hj ha hk
    obtain ⟨k, rfl⟩ : ∃ i, k = i + 1 := ⟨k - 1, by omega⟩
    have hjl : j < l.length := by omega
    have hw := wrapS j (by omega)
    have hih := fun hd => ih (j + 1) k (by omega) (by omega) (all_take l okN j hjl ha hd) (by omega)
    have hno := fun hn => nameV_no l (not_all_at l okN j hjl hn)
    have hiff := okN_iff (l.getD j 0)
    simp only [S.remontoirref16_Name.l0]
    rw [if_pos (by rw [S_size]; omega), if_pos (by omega), S_bt, hw]
    generalize okN (l.getD j 0) = b at hiff hih hno
    generalize ((l.getD j 0).toNat : Int) = c at hiff
    clear ih
    by_cases h1 : c < 97
    · rw [if_pos h1]
      by_cases h2 : c < 48
      · rw [if_pos h2, hno (fun h => by have := hiff.mp h; omega)]
      · rw [if_neg h2]
        by_cases h3 : c > 57
        · rw [if_pos h3, hno (fun h => by have := hiff.mp h; omega)]
        · rw [if_neg h3]; exact hih (hiff.mpr (by omega))
    · rw [if_neg h1]
      by_cases h4 : c > 122
      · rw [if_pos h4, if_neg (by omega), if_pos (by omega), hno (fun h => by have := hiff.mp h; omega)]
      · rw [if_neg h4]; exact hih (hiff.mpr (by omega))
theorem rnm_f (l : List UInt8) (hl : l.length ≤ 1000000) (k : Nat) (hk : l.length < k) : S.remontoirref16_Name.f k (S l) = some (nameV l) :=
  rnm_l0 l hl l.length 0 k (by omega) (by omega) rfl hk
end Go.Proofs.YthneholbmninjaaDoor.Pure
