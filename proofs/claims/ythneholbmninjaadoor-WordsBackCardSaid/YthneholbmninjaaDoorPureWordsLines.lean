/- WordsLines, in plain words: of any text its lines, of any line its words are the reference's. -/
import Derived.Test.YthneholbmninjaaDoorQx4
import Derived.Test.YthneholbmninjaaDoorPureWordsRef
namespace Go.Proofs.YthneholbmninjaaDoor.Pure
open Go.RowKit Go.Proofs.YthneholbmninjaaDoorW.PrintWords Go.Proofs.YthneholbmninjaaDoor.Ext Go.Proofs.YthneholbmninjaaDoor.Q Go.Proofs.YthneholbmninjaaDoor.Span
set_option linter.unusedVariables false

/-! ### The reference's Cut -/
theorem is32 (c : UInt8) : ((c.toNat : Int) = 32) ↔ c = 32 := by
  constructor
  · intro h
    have h' : c.toNat = (32 : UInt8).toNat := by
      have : (32 : UInt8).toNat = 32 := rfl
      omega
    exact UInt8.toNat_inj.mp h'
  · rintro rfl; rfl
theorem cut_l0 (l : List UInt8) (hl : l.length ≤ 100000) : ∀ m i k : Nat, l.length - i = m → i ≤ l.length → m < k → ∀ (acc : List ByteArray) (cur : List UInt8), acc.length ≤ i → cur.length ≤ i → (∀ d ∈ cur, d ≠ 32) →
    remontoirref16_Cut.l0 k (S l) (acc ++ [S cur]) (i : Int) = some (acc ++ (pieces 32 (cur ++ l.drop i)).map S) := by
  intro m
  induction m with
  | zero =>
    intro i k hm hi hk acc cur ha hc hcur
    obtain ⟨k, rfl⟩ : ∃ i, k = i + 1 := ⟨k - 1, by omega⟩
    simp only [remontoirref16_Cut.l0]
    rw [S_size, if_neg (by omega), drop_nil' l i (by omega), List.append_nil, pieces_none 32 cur hcur]; rfl
  | succ m ih =>
    intro i k hm hi hk acc cur ha hc hcur
    obtain ⟨k, rfl⟩ : ∃ i, k = i + 1 := ⟨k - 1, by omega⟩
    have hil : i < l.length := by omega
    have hlen : (acc ++ [S cur]).length = acc.length + 1 := by rw [List.length_append, List.length_singleton]
    have hlast : rdOf ByteArray.empty (acc ++ [S cur]) ((acc.length : Nat) : Int) = S cur := by
      have := rd_last acc (S cur)
      rw [hlen, Nat.add_sub_cancel] at this
      exact this
    have hset : ∀ y : ByteArray, (acc ++ [S cur]).set acc.length y = acc ++ [y] := by
      intro y
      have := set_last acc (S cur) y
      rw [hlen, Nat.add_sub_cancel] at this
      exact this
    have hmid : (S l).extract i (i + 1) = S [l.getD i 0] := by
      rw [S_mid, take_getD l i i hil (Nat.le_refl _), drop_nil' (l.take i) i (by rw [List.length_take]; omega)]; rfl
    have i1 : (i : Int) < ((i + 1 : Nat) : Int) ∨ True := Or.inr trivial
    have c1 : (i : Int) < (l.length : Int) := by omega
    have c2 : (0 : Int) ≤ (i : Int) := by omega
    have c3 : (acc ++ [S cur]).length < 8796093022208 := by omega
    have c4 : (0 : Int) ≤ ((acc.length : Nat) : Int) := by omega
    have c5 : ((acc.length : Nat) : Int) < ((acc.length + 1 : Nat) : Int) := by omega
    have c6 : (i : Int) ≤ ((i + 1 : Nat) : Int) := by omega
    have c7 : ((i + 1 : Nat) : Int) ≤ (l.length : Int) := by omega
    have c8 : cur.length + 1 ≤ 9223372036854775807 := by omega
    have ih1 := ih (i + 1) k (by omega) (by omega) (by omega) (acc ++ [S cur]) [] (by rw [hlen]; omega) (by simp) (by simp)
    have ih2 := fun hcc => ih (i + 1) k (by omega) (by omega) (by omega) acc (cur ++ [l.getD i 0]) (by omega) (by rw [List.length_append, List.length_singleton]; omega) hcc
    have hw := wrapS i (by omega)
    have hw2 : wrap64 (((acc ++ [S cur]).length : Int) - 1) = ((acc.length : Nat) : Int) := by rw [hlen]; unfold wrap64; omega
    simp only [remontoirref16_Cut.l0]
    rw [S_size, if_pos c1, if_pos c2, S_bt, hw, hw2, drop_getD l i hil]
    by_cases h32 : l.getD i 0 = 32
    · rw [if_pos (by rw [h32]; rfl), if_pos c3, h32, pieces_hit 32 cur _ hcur]
      refine Eq.trans ih1 ?_
      rw [List.nil_append, List.append_assoc]; rfl
    · have hn : ¬ ((l.getD i 0).toNat : Int) = 32 := fun e => h32 ((is32 _).mp e)
      rw [if_neg hn, if_pos c4, hlen, if_pos c5, if_pos c6, if_pos c7, hlast, Int.toNat_natCast, Int.toNat_natCast, Int.toNat_natCast, hmid, S_size, S_size, if_pos (show cur.length + [l.getD i 0].length ≤ 9223372036854775807 from c8), S_append, hset]
      refine Eq.trans (ih2 (no_snoc cur _ 32 hcur h32)) ?_
      rw [List.append_assoc]; rfl
theorem cut_f (l : List UInt8) (hl : l.length ≤ 100000) (k : Nat) (hk : l.length < k) : remontoirref16_Cut.f k (S l) = some ((pieces 32 l).map S) := by
  have := cut_l0 l hl l.length 0 k rfl (by omega) hk [] [] (Nat.le_refl _) (Nat.le_refl _) (by simp)
  rw [List.drop_zero, List.nil_append, List.nil_append, List.nil_append] at this
  exact this
/-! ### The reference's Join -/
def glueGo : List UInt8 → Bool → List (List UInt8) → List UInt8
  | s, _, [] => s
  | s, b, x :: r => glueGo (if b then s ++ [32] ++ x else s ++ x) true r
def total (xs : List (List UInt8)) : Nat := (xs.map (fun x => x.length + 1)).sum
theorem total_cons (x : List UInt8) (xs : List (List UInt8)) : total (x :: xs) = x.length + 1 + total xs := by unfold total; rw [List.map_cons, List.sum_cons]
def VJ (b : Bool) (s : List UInt8) : Option (ByteArray × Bool) := if b = true then some (S s, true) else some (S [], false)
theorem join_l1 (xs : List (List UInt8)) (s : List UInt8) (j : Nat) (hj : j < xs.length) (hn : xs.length ≤ 1000000) (kmin : Nat) (R : Option (ByteArray × Bool)) (x : List UInt8) (hx : xs[j] = x)
    (hsz : s.length + 1 + x.length ≤ 1000000000) 
    (hR : ∀ k, kmin ≤ k → remontoirref16_Join.l0 k (xs.map S) (S (if decide (0 < j) = true then s ++ [32] ++ x else s ++ x)) ((j + 1 : Nat) : Int) = R) :
    ∀ m i k : Nat, x.length - i = m → i ≤ x.length → m + kmin < k → (x.take i).all okWord = true →
      remontoirref16_Join.l1 k (xs.map S) (S s) (j : Int) (i : Int) = if x.all okWord = true then R else some (S [], false) := by
  have hrd : rdOf ByteArray.empty (xs.map S) (j : Int) = S x := by
    rw [rd_at _ _ (by rw [List.length_map]; exact hj), List.getElem_map, hx]
  have c1 : (0 : Int) ≤ (j : Int) := by omega
  have c2 : (j : Int) < (((xs.map S).length : Nat) : Int) := by rw [List.length_map]; omega
  have hwj := wrapS j (by omega)
  intro m
  induction m with
  | zero =>
    intro i k hm hi hk ha
    obtain ⟨k, rfl⟩ : ∃ i, k = i + 1 := ⟨k - 1, by omega⟩
    rw [List.take_of_length_le (by omega)] at ha
    have c3 : ¬ (i : Int) < (((S x).size : Nat) : Int) := by rw [S_size]; omega
    have hRk := hR k (by omega)
    simp only [remontoirref16_Join.l1]
    rw [if_pos c1, if_pos c2, hrd, if_neg c3, hwj, if_pos ha]
    have e32 : (S s ++ ⟨#[32]⟩ : ByteArray) = S (s ++ [32]) := S_append s [32]
    by_cases h0 : 0 < j
    · have c4 : (S s).size + 1 ≤ 9223372036854775807 := by rw [S_size]; omega
      have c5 : (S (s ++ [32])).size + (S x).size ≤ 9223372036854775807 := by rw [S_size, S_size, List.length_append, List.length_singleton]; omega
      rw [if_pos (by omega), if_pos c4, e32, if_pos c5, S_append]
      rw [decide_eq_true h0, if_pos rfl] at hRk
      exact hRk
    · have c5 : (S s).size + (S x).size ≤ 9223372036854775807 := by rw [S_size, S_size]; omega
      rw [if_neg (by omega), if_pos c5, S_append]
      rw [decide_eq_false h0, if_neg (by decide)] at hRk
      exact hRk
  | succ m ih =>
    intro i k hm hi hk ha
    obtain ⟨k, rfl⟩ : ∃ i, k = i + 1 := ⟨k - 1, by omega⟩
    have hil : i < x.length := by omega
    have c3 : (i : Int) < (((S x).size : Nat) : Int) := by rw [S_size]; omega
    have c4 : (0 : Int) ≤ (i : Int) := by omega
    have hih := fun hq => ih (i + 1) k (by omega) (by omega) (by omega) hq
    have hw := wrapS i (by omega)
    simp only [remontoirref16_Join.l1]
    rw [if_pos c1, if_pos c2, hrd, if_pos c3, if_pos c4, S_bt, hw]
    by_cases hb : okWord (x.getD i 0) = true
    · have h2 := (okWord_iff _).mp hb
      rw [if_neg (by omega), if_neg (by omega)]
      refine hih ?_
      rw [List.take_succ_eq_append_getElem hil, List.all_append, ha, Bool.true_and]
      rw [List.getD_eq_getElem?_getD, List.getElem?_eq_getElem hil] at hb
      simpa using hb
    · have h2 : ¬ (33 ≤ (x.getD i 0).toNat ∧ (x.getD i 0).toNat ≤ 126) := fun h => hb ((okWord_iff _).mpr h)
      have hno : ¬ (x.all okWord = true) := by
        intro h
        have := List.all_eq_true.mp h _ (List.getElem_mem hil)
        rw [List.getD_eq_getElem?_getD, List.getElem?_eq_getElem hil] at hb
        exact hb this
      rw [if_neg hno]
      by_cases h33 : ((x.getD i 0).toNat : Int) < 33
      · rw [if_pos h33]; rfl
      · rw [if_neg h33, if_pos (by omega)]; rfl
theorem join_l0 (xs : List (List UInt8)) (hn : xs.length ≤ 1000000) : ∀ m j k : Nat, xs.length - j = m → j ≤ xs.length → ∀ s : List UInt8, s.length + total (xs.drop j) ≤ 100000000 → 2 * m + total (xs.drop j) + 2 < k →
    remontoirref16_Join.l0 k (xs.map S) (S s) (j : Int) = VJ ((xs.drop j).all okW) (glueGo s (decide (0 < j)) (xs.drop j)) := by
  intro m
  induction m with
  | zero =>
    intro j k hm hj s hs hk
    obtain ⟨k, rfl⟩ : ∃ i, k = i + 1 := ⟨k - 1, by omega⟩
    simp only [remontoirref16_Join.l0]
    rw [List.length_map, if_neg (by omega), drop_nil' xs j (by omega), glueGo]; rfl
  | succ m ih =>
    intro j k hm hj s hs hk
    obtain ⟨k, rfl⟩ : ∃ i, k = i + 1 := ⟨k - 1, by omega⟩
    have hjl : j < xs.length := by omega
    have hd : xs.drop j = xs[j] :: xs.drop (j + 1) := List.drop_eq_getElem_cons hjl
    rw [hd, total_cons] at hs hk
    rw [hd]
    generalize hx : xs[j] = x at *
    have hrd : rdOf ByteArray.empty (xs.map S) (j : Int) = S x := by
      rw [rd_at _ _ (by rw [List.length_map]; exact hjl), List.getElem_map, hx]
    simp only [remontoirref16_Join.l0]
    rw [List.length_map, if_pos (by omega), if_pos (by omega), hrd, Lib.toList_data, S_list, List.all_cons, glueGo]
    by_cases he : x = []
    · rw [if_pos he, he]; rfl
    · rw [if_neg he]
      have hne : (!x.isEmpty) = true := by cases x with
        | nil => exact absurd rfl he
        | cons _ _ => rfl
      have hl1 := join_l1 xs s j hjl hn (2 * m + total (xs.drop (j + 1)) + 3) _ x hx (by omega) (fun k' hk' => ih (j + 1) k' (by omega) (by omega) _ (by
        split <;> (simp only [List.length_append, List.length_singleton]; omega)) (by omega)) x.length 0 k (by omega) (by omega) (by omega) rfl
      refine Eq.trans hl1 ?_
      rw [decide_eq_true (show 0 < j + 1 by omega)]
      unfold okW
      rw [hne, Bool.true_and]
      by_cases hall : x.all okWord = true
      · rw [if_pos hall, hall, Bool.true_and]
      · rw [if_neg hall, Bool.eq_false_iff.mpr hall, Bool.false_and]; rfl
theorem join_f (xs : List (List UInt8)) (h0 : xs ≠ []) (hn : xs.length ≤ 1000000) (ht : total xs ≤ 100000000) (k : Nat) (hk : 2 * xs.length + total xs + 2 < k) :
    remontoirref16_Join.f k (xs.map S) = VJ (xs.all okW) (glueGo [] false xs) := by
  have hp : 0 < xs.length := List.length_pos_iff.mpr h0
  unfold remontoirref16_Join.f
  rw [List.length_map, if_neg (by omega)]
  have := join_l0 xs hn xs.length 0 k rfl (by omega) [] (by rw [List.drop_zero]; simpa using ht) (by rw [List.drop_zero]; exact hk)
  rw [List.drop_zero] at this
  exact this
/-! ### The reference's Split -/
theorem total_pieces (c : UInt8) (l : List UInt8) : total (pieces c l) = l.length + 1 := by
  induction l with
  | nil => rfl
  | cons d l ih =>
    rw [pieces]
    by_cases h : d = c
    · rw [if_pos h, total_cons, ih, List.length_cons, List.length_nil]; omega
    · rw [if_neg h]
      cases hp : pieces c l with
      | nil => exact absurd hp (pieces_ne c l)
      | cons p ps =>
        rw [hp, total_cons] at ih
        dsimp only
        rw [total_cons, List.length_cons, List.length_cons]; omega
theorem length_total (xs : List (List UInt8)) : xs.length ≤ total xs := by
  induction xs with
  | nil => exact Nat.zero_le _
  | cons x xs ih => rw [total_cons, List.length_cons]; omega
theorem ref_split_f (l : List UInt8) (hl : l.length ≤ 100000) (k : Nat) (hk : 4 * l.length + 10 < k) : remontoirref16_Split.f k (S l) = some ((wordsL l).1.map S, (wordsL l).2) := by
  have ht := total_pieces 32 l
  have hlt := length_total (pieces 32 l)
  unfold remontoirref16_Split.f wordsL
  rw [cut_f l hl k (by omega), Option.bind_some, join_f (pieces 32 l) (pieces_ne 32 l) (by omega) (by omega) k (by omega)]
  unfold VJ
  by_cases h : (pieces 32 l).all okW = true
  · rw [if_pos h, if_pos h, Option.bind_some]; rfl
  · rw [if_neg h, if_neg h, Option.bind_some]; rfl
/-! ### The law -/
theorem wl_l0 (xs : List (List UInt8)) (hn : xs.length ≤ 100000) : ∀ m j k : Nat, xs.length - j = m → j ≤ xs.length → m + 12000 < k →
    remontoirlaw16_WordsLines.l0 k (xs.map S) (xs.length : Int) (j : Int) = some true := by
  intro m
  induction m with
  | zero =>
    intro j k hm hj hk
    obtain ⟨k, rfl⟩ : ∃ i, k = i + 1 := ⟨k - 1, by omega⟩
    simp only [remontoirlaw16_WordsLines.l0]
    rw [if_neg (by omega), wakes_ok k (by omega)]; rfl
  | succ m ih =>
    intro j k hm hj hk
    obtain ⟨k, rfl⟩ : ∃ i, k = i + 1 := ⟨k - 1, by omega⟩
    have hjl : j < xs.length := by omega
    have c1 : (j : Int) < (xs.length : Int) := by omega
    have c2 : (0 : Int) ≤ (j : Int) := by omega
    have c3 : (j : Int) < (((xs.map S).length : Nat) : Int) := by rw [List.length_map]; exact c1
    have hrd : rdOf ByteArray.empty (xs.map S) (j : Int) = S xs[j] := by
      rw [rd_at _ _ (by rw [List.length_map]; exact hjl), List.getElem_map]
    have hih := ih (j + 1) k (by omega) (by omega) (by omega)
    have hw := wrapS j (by omega)
    simp only [remontoirlaw16_WordsLines.l0]
    rw [if_pos c1, if_pos c2, if_pos c3, hrd, hw]
    by_cases h2 : 2000 < (xs[j]).length
    · rw [if_pos (by rw [S_size]; omega)]; exact hih
    · have hp : (wordsL xs[j]).1.length ≤ 2001 := by
        have ht := total_pieces 32 xs[j]
        have hlt := length_total (pieces 32 xs[j])
        unfold wordsL
        split
        · show (pieces 32 xs[j]).length ≤ 2001
          omega
        · exact Nat.zero_le _
      rw [if_neg (by rw [S_size]; omega), split_f _ (by omega), Option.bind_some, ref_split_f _ (by omega) k (by omega), Option.bind_some]
      dsimp only
      rw [bne_self_eq_false, if_neg (by decide), texts_f _ _ (by rw [List.length_map]; omega) k (by rw [List.length_map]; omega), Option.bind_some, decide_eq_true rfl, if_pos rfl]
      exact hih
theorem lines_len (l : List UInt8) : (linesL l).1.length ≤ l.length + 1 := by
  have ht := total_pieces 10 l
  have hlt := length_total (pieces 10 l)
  unfold linesL
  split
  · exact Nat.zero_le _
  · split
    · split
      · show (pieces 10 l).dropLast.length ≤ l.length + 1
        rw [List.length_dropLast]; omega
      · exact Nat.zero_le _
    · exact Nat.zero_le _
theorem WordsLines : remontoirlaw16_WordsLines.Pure := by
  intro a0 h0
  obtain ⟨l, rfl⟩ : ∃ l, a0 = S l := ⟨_, (S_of a0).symm⟩
  rw [S_size] at h0
  have hlen := lines_len l
  refine ⟨2 * l.length + 30000, ?_⟩
  have hL := lines_f l (2 * l.length + 30000) (by omega)
  have hR := ref_lines_f l (2 * l.length + 30000) (by omega)
  have hw := wakes_ok (2 * l.length + 30000) (by omega)
  unfold VL at hL hR
  unfold remontoirlaw16_WordsLines.f
  rw [S_size, hw]
  by_cases h12 : 12000 < l.length
  · rw [if_pos (by omega)]; rfl
  · have hT := texts_f ((linesL l).1.map S) ((linesL l).1.map S) (by rw [List.length_map]; omega) (2 * l.length + 30000) (by rw [List.length_map]; omega)
    have hW := wl_l0 ((linesL l).1 ++ [l]) (by rw [List.length_append, List.length_singleton]; omega) ((linesL l).1 ++ [l]).length 0 (2 * l.length + 29999) (by omega) (by omega) (by rw [List.length_append, List.length_singleton]; omega)
    have hlt : ((linesL l).1.map S).length < 8796093022208 := by rw [List.length_map]; omega
    rw [if_neg (by omega), hL, Option.bind_some, hR, Option.bind_some]
    dsimp only
    rw [if_pos rfl, hT, Option.bind_some, decide_eq_true rfl]
    rw [show 2 * l.length + 30000 = (2 * l.length + 29999) + 1 from rfl]
    simp only [remontoirlaw16_WordsLines.j0]
    rw [if_neg (by decide), if_pos hlt, Option.bind_some]
    have e : ((linesL l).1.map S ++ [S l]) = ((linesL l).1 ++ [l]).map S := by rw [List.map_append]; rfl
    rw [e, List.length_map]
    exact hW
end Go.Proofs.YthneholbmninjaaDoor.Pure
