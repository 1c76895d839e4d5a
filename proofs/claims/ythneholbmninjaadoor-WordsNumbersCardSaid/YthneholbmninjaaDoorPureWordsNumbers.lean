/- WordsNumbers, in plain words: the digits of a number of at most nine are it, if it is at most as great as may be; with a nought, a sign ahead, with anything behind it is none. -/
import Derived.Test.YthneholbmninjaaDoorQx5
import Derived.Test.YthneholbmninjaaDoorPureWords
import Derived.Lib.ItoaMem
namespace Go.Proofs.YthneholbmninjaaDoor.Pure
open Go.RowKit Go.Proofs.YthneholbmninjaaDoorW.PrintWords Go.Proofs.YthneholbmninjaaDoor.Ext Go.Proofs.YthneholbmninjaaDoor.Q Go.Proofs.YthneholbmninjaaDoor.Span
set_option linter.unusedVariables false

theorem digits_len (n : Nat) (h : n < 18446744073709551616) : (Lib.decDigits n).length ≤ 20 := by
  rw [Lib.decDigits_length]
  by_cases h0 : n = 0
  · subst h0; rw [Lib.nDigits_small (by omega)]; omega
  · have := Lib.numDigits_eq n (by omega) h
    split at this <;> omega
theorem digits_go (k : Nat) : ∀ n : Nat, n < 10 ^ (k + 1) → n < 18446744073709551616 → remontoirref02_Digits.f (k + 1) n = some (S (Lib.decDigits n)) := by
  induction k with
  | zero =>
    intro n h _
    have c : n < 10 := h
    simp only [remontoirref02_Digits.f]
    rw [if_pos (by omega), Lib.decDigits_one c, dig_one n c]
  | succ k ih =>
    intro n h h64
    rw [remontoirref02_Digits.f]
    by_cases c : n < 10
    · rw [if_pos (by omega), Lib.decDigits_one c, dig_one n c]
    · have e1 : IntKind.u64.wrap (Int.tdiv (n : Int) 10) = ((n / 10 : Nat) : Int) := by
        rw [IntKind.wrap_u64, Int.tdiv_eq_ediv_of_nonneg (by omega)]; omega
      have e2 : Int.tmod (n : Int) 10 = ((n % 10 : Nat) : Int) := by rw [Int.tmod_eq_emod_of_nonneg (by omega)]; omega
      have hk : n / 10 < 10 ^ (k + 1) := by rw [Nat.pow_succ] at h; omega
      have hd : Lib.decDigits n = Lib.decDigits (n / 10) ++ [UInt8.ofNat (48 + n % 10)] := by rw [Lib.decDigits, dif_neg c]
      rw [if_neg (by omega), e1, e2, ih (n / 10) hk (by omega), Option.bind_some, Option.bind_some, dig_one (n % 10) (by omega), hd, ← S_append]
      have hl := digits_len (n / 10) (by omega)
      rw [if_pos (by rw [S_size, S_size]; simp only [List.length_cons, List.length_nil]; omega)]
theorem digits_f (n : Nat) (h : n < 18446744073709551616) : remontoirref02_Digits.f 20 n = some (S (Lib.decDigits n)) :=
  digits_go 19 n (Nat.lt_of_lt_of_le h (by decide)) h
theorem digits_k (n : Nat) (h : n < 18446744073709551616) (k : Nat) (hk : 20 ≤ k) : remontoirref02_Digits.f k n = some (S (Lib.decDigits n)) := by
  obtain ⟨k, rfl⟩ : ∃ i, k = i + 1 := ⟨k - 1, by omega⟩
  exact digits_go k n (Nat.lt_of_lt_of_le h (Nat.le_trans (show 18446744073709551616 ≤ 10 ^ 20 by decide) (Nat.pow_le_pow_right (by decide) hk))) h
theorem dec_len9 (n : Nat) (h : n < 1000000000) : (Lib.decDigits n).length ≤ 9 := dec_len n 8 (by rw [show (10 : Nat) ^ (8 + 1) = 1000000000 by decide]; exact h)
theorem num_dec (n : Nat) (h : n < 1000000000) (most : Int) : numV (Lib.decDigits n) most = if (n : Int) ≤ most then ((n : Int), true) else (0, false) := by
  have h9 := dec_len9 n h
  have hne := List.length_pos_iff.mpr (dec_ne n)
  have hall : (Lib.decDigits n).all isD = true := List.all_eq_true.mpr (dec_digits n)
  have h48 : ¬ ((Lib.decDigits n).getD 0 0 = 48 ∧ 1 < (Lib.decDigits n).length) := by
    rintro ⟨h1, h2⟩
    by_cases h0 : 0 < n
    · exact dec_head n h0 h1
    · obtain rfl : n = 0 := by omega
      rw [Lib.decDigits_one (by omega)] at h2
      exact absurd h2 (by decide)
  unfold numV
  rw [if_neg (by rintro (h | h | h | h) <;> first | omega | exact h48 h | exact h hall), dec_val]
theorem num_l (xs : List ByteArray) (hx : ∀ s ∈ xs, ∃ l : List UInt8, s = S l ∧ l.length ≤ 20 ∧ numV l 4611686018427387904 = (0, false)) (hn : xs.length ≤ 100) :
    ∀ m j k : Nat, xs.length - j = m → j ≤ xs.length → m + 40 < k → remontoirlaw16_WordsNumbers.l0 k xs (xs.length : Int) j = some true := by
  intro m
  induction m with
  | zero =>
    intro j k hm hj hk
    obtain ⟨k, rfl⟩ : ∃ i, k = i + 1 := ⟨k - 1, by omega⟩
    simp only [remontoirlaw16_WordsNumbers.l0]
    rw [if_neg (by omega), wakes_ok k (by omega)]; rfl
  | succ m ih =>
    intro j k hm hj hk
    obtain ⟨k, rfl⟩ : ∃ i, k = i + 1 := ⟨k - 1, by omega⟩
    have hjl : j < xs.length := by omega
    have hget : rdOf ByteArray.empty xs (j : Int) = xs[j] := by
      unfold rdOf; rw [Int.toNat_natCast, List.getD_eq_getElem?_getD, List.getElem?_eq_getElem hjl]; rfl
    obtain ⟨l, e, hl, hp⟩ := hx xs[j] (List.getElem_mem hjl)
    have hw := wrapS j (by omega)
    simp only [remontoirlaw16_WordsNumbers.l0]
    rw [if_pos (by omega), if_pos (by omega), if_pos (by omega), hget, e, num_f l _ k (by omega), hp, Option.bind_some]
    dsimp only
    rw [if_neg (by decide), if_pos rfl, hw]
    exact ih (j + 1) k (by omega) (by omega) (by omega)
theorem not_all (l : List UInt8) (c : UInt8) (hc : c ∈ l) (hd : isD c = false) : ¬ (l.all isD = true) := by
  intro h
  rw [List.all_eq_true.mp h c hc] at hd
  cases hd
theorem num_j0 (n : Nat) (h : n < 1000000000) (k : Nat) (hk : 60 < k) : remontoirlaw16_WordsNumbers.j0 k (S (Lib.decDigits n)) false = some true := by
  obtain ⟨k, rfl⟩ : ∃ i, k = i + 1 := ⟨k - 1, by omega⟩
  have h9 := dec_len9 n h
  have hne := List.length_pos_iff.mpr (dec_ne n)
  simp only [remontoirlaw16_WordsNumbers.j0]
  rw [if_neg (by decide), S_size, if_pos (by omega), if_pos (by omega), if_pos (by omega)]
  simp only [Option.bind_some]
  generalize Lib.decDigits n = d at h9 hne
  have q1 : (⟨#[48]⟩ ++ S d : ByteArray) = S (48 :: d) := S_append [48] d
  have q2 : (⟨#[43]⟩ ++ S d : ByteArray) = S (43 :: d) := S_append [43] d
  have q3 : (⟨#[45]⟩ ++ S d : ByteArray) = S (45 :: d) := S_append [45] d
  have q4 : (S d ++ ⟨#[32]⟩ : ByteArray) = S (d ++ [32]) := S_append d [32]
  have q5 : (S d ++ ⟨#[97]⟩ : ByteArray) = S (d ++ [97]) := S_append d [97]
  have q6 : (S d ++ ⟨#[48, 48, 48, 48, 48, 48, 48, 48, 48]⟩ : ByteArray) = S (d ++ [48, 48, 48, 48, 48, 48, 48, 48, 48]) := S_append d [48, 48, 48, 48, 48, 48, 48, 48, 48]
  rw [q1, q2, q3, q4, q5, q6]
  refine num_l _ ?_ (by simp) 7 0 k (by simp) (by omega) (by omega)
  intro s hs
  simp only [List.mem_cons, List.not_mem_nil, or_false] at hs
  rcases hs with rfl | rfl | rfl | rfl | rfl | rfl | rfl
  · exact ⟨_, rfl, by rw [List.length_cons]; omega, num_no _ _ (Or.inr (Or.inr (Or.inl ⟨rfl, by rw [List.length_cons]; omega⟩)))⟩
  · exact ⟨_, rfl, by rw [List.length_cons]; omega, num_no _ _ (Or.inr (Or.inr (Or.inr (not_all _ 43 (by simp) rfl))))⟩
  · exact ⟨_, rfl, by rw [List.length_cons]; omega, num_no _ _ (Or.inr (Or.inr (Or.inr (not_all _ 45 (by simp) rfl))))⟩
  · exact ⟨_, rfl, by rw [List.length_append]; simp only [List.length_cons, List.length_nil]; omega, num_no _ _ (Or.inr (Or.inr (Or.inr (not_all _ 32 (by simp) rfl))))⟩
  · exact ⟨_, rfl, by rw [List.length_append]; simp only [List.length_cons, List.length_nil]; omega, num_no _ _ (Or.inr (Or.inr (Or.inr (not_all _ 97 (by simp) rfl))))⟩
  · exact ⟨_, rfl, by rw [List.length_append]; simp only [List.length_cons, List.length_nil]; omega, num_no _ _ (Or.inr (Or.inl (by rw [List.length_append]; simp only [List.length_cons, List.length_nil]; omega)))⟩
  · exact ⟨[], rfl, by simp, num_no _ _ (Or.inl (by simp))⟩
theorem WordsNumbers : remontoirlaw16_WordsNumbers.Pure := by
  intro a0 a1 h0 h1
  have b0 := wf_u32 h0
  obtain ⟨n0, rfl⟩ := Int.eq_ofNat_of_zero_le b0.1
  refine ⟨100, ?_⟩
  unfold remontoirlaw16_WordsNumbers.f
  have e1 : Int.tmod (wrap64 (n0 : Int)) 1000000000 = ((n0 % 1000000000 : Nat) : Int) := by
    rw [wrapN n0 (by omega), Int.tmod_eq_emod_of_nonneg (by omega)]; omega
  have hn : n0 % 1000000000 < 1000000000 := Nat.mod_lt _ (by omega)
  rw [e1]
  generalize n0 % 1000000000 = n at hn
  have h9 := dec_len9 n hn
  rw [wrapU n (by omega), digits_k n (by omega) 100 (by omega), Option.bind_some, num_f _ _ 100 (by omega), Option.bind_some, num_f _ _ 100 (by omega), Option.bind_some, num_dec n hn, num_dec n hn, if_pos (show (n : Int) ≤ 999999999 by omega)]
  have hj := num_j0 n hn 100 (by omega)
  by_cases hm : (n : Int) ≤ a1
  · rw [if_pos hm, decide_eq_true hm]
    simp only [bne_self_eq_false, if_true, Bool.false_eq_true, if_false]
    exact hj
  · rw [if_neg hm, decide_eq_false hm]
    simp only [bne_self_eq_false, if_true, Bool.false_eq_true, if_false]
    exact hj
end Go.Proofs.YthneholbmninjaaDoor.Pure
