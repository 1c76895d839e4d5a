/- CycleErrors, in plain words: behind R, a number and a slash the errors of the length are passed on; no number is error 5; a number too large is error 3. -/
import Derived.Test.YtjkdibkgmfnkdaaDoorQx8
import Derived.Test.YtjkdibkgmfnkdaaDoorPureCycle
namespace Go.Proofs.YtjkdibkgmfnkdaaDoor.Pure
open Go.RowKit Go.Proofs.YtjkdibkgmfnkdaaDoorW.PrintWords Go.Proofs.YtjkdibkgmfnkdaaDoor.Ext Go.Proofs.YtjkdibkgmfnkdaaDoor.B Go.Proofs.YtjkdibkgmfnkdaaDoor.Q Go.Proofs.YtjkdibkgmfnkdaaDoor.Span Go.Proofs.YtjkdibkgmfnkdaaDoor.Cyc
set_option linter.unusedVariables false

theorem digits_k (n : Nat) (h : n < 18446744073709551616) (k : Nat) (hk : 20 ≤ k) : remontoirref02_Digits.f k n = some (S (Lib.decDigits n)) := by
  obtain ⟨k, rfl⟩ : ∃ i, k = i + 1 := ⟨k - 1, by omega⟩
  exact digits_go k n (Nat.lt_of_lt_of_le h (Nat.le_trans (show 18446744073709551616 ≤ 10 ^ 20 by decide) (Nat.pow_le_pow_right (by decide) hk))) h
theorem dec_big (n : Nat) (h : n < 10000000) (h1 : 1000000 ≤ n) : (Lib.decDigits n).length ≤ 7 := dec_len n 6 (by rw [show (10 : Nat) ^ (6 + 1) = 10000000 by decide]; exact h)
/-- A number, a slash, a length. -/
theorem cyc_dec (n : Nat) (h1 : 0 < n) (h2 : n < 10000000) (s : List UInt8) : cycR (Lib.decDigits n ++ 47 :: s) = if 1000000 < n then (0, 0, 3) else tailC n s := by
  have hne := dec_ne n
  have hlen := dec_len n 6 (by rw [show (10 : Nat) ^ (6 + 1) = 10000000 by decide]; exact h2)
  have hpos : 0 < (Lib.decDigits n).length := List.length_pos_iff.mpr hne
  have hD : nD (Lib.decDigits n ++ 47 :: s) = (Lib.decDigits n).length := nD_app _ (dec_digits n) 47 rfl s
  have hg : (Lib.decDigits n ++ 47 :: s).getD (Lib.decDigits n).length 0 = 47 := by
    rw [List.getD_eq_getElem?_getD, List.getElem?_append_right (Nat.le_refl _), Nat.sub_self]; rfl
  have h0 : (Lib.decDigits n ++ 47 :: s).getD 0 0 = (Lib.decDigits n).getD 0 0 := by
    rw [List.getD_eq_getElem?_getD, List.getElem?_append_left hpos, ← List.getD_eq_getElem?_getD]
  have hc : ¬ (nD (Lib.decDigits n ++ 47 :: s) < 1 ∨ 7 < nD (Lib.decDigits n ++ 47 :: s) ∨ (Lib.decDigits n ++ 47 :: s).getD 0 0 = 48 ∨ nD (Lib.decDigits n ++ 47 :: s) = (Lib.decDigits n ++ 47 :: s).length ∨ (Lib.decDigits n ++ 47 :: s).getD (nD (Lib.decDigits n ++ 47 :: s)) 0 ≠ 47) := by
    rw [hD, hg, h0, List.length_append, List.length_cons]
    rintro (h | h | h | h | h)
    · omega
    · omega
    · exact dec_head n h1 h
    · omega
    · exact h rfl
  have ht : (Lib.decDigits n ++ 47 :: s).take (Lib.decDigits n).length = Lib.decDigits n := List.take_left' rfl
  have hd : (Lib.decDigits n ++ 47 :: s).drop ((Lib.decDigits n).length + 1) = s := by
    rw [← List.drop_drop, List.drop_left' rfl]; rfl
  unfold cycR
  rw [if_neg (head_dec n _ 47 rfl), if_neg hc, hD, ht, hd, dec_val]
theorem e_j1 (n p e : Nat) (s : List UInt8) (hp : parseL s = (p, e)) (k : Nat) (hk : 31 ≤ k) :
    remontoirlaw03_CycleErrors.j1 k (n : Int) ((tailC n s).2.2 : Nat) (p : Int) (e : Int) (decide (e = 0) && decide (0 < p)) ((tailC n s).1 : Nat) ((tailC n s).2.1 : Nat) = some true := by
  obtain ⟨k, rfl⟩ : ∃ i, k = i + 1 := ⟨k - 1, by omega⟩
  unfold tailC
  rw [hp]
  simp only [remontoirlaw03_CycleErrors.j1]
  rw [wakes_ok k (by omega)]
  by_cases he : e = 0
  · subst he
    by_cases h0 : p = 0
    · subst h0; rfl
    · have hpp : 0 < p := by omega
      simp [h0, hpp]
  · have he' : ¬ ((e : Nat) : Int) = 0 := by omega
    simp [he]
theorem e_j0 (n p e : Nat) (s : List UInt8) (hp : parseL s = (p, e)) (k : Nat) (hk : 32 ≤ k) :
    remontoirlaw03_CycleErrors.j0 k (n : Int) ((tailC n s).2.2 : Nat) (p : Int) (e : Int) false ((tailC n s).1 : Nat) ((tailC n s).2.1 : Nat) = some true := by
  obtain ⟨k, rfl⟩ : ∃ i, k = i + 1 := ⟨k - 1, by omega⟩
  have h := e_j1 n p e s hp k (by omega)
  simp only [remontoirlaw03_CycleErrors.j0]
  rw [if_neg (by decide)]
  by_cases he : e = 0
  · subst he
    rw [if_pos (show ((0 : Nat) : Int) = 0 from rfl)]
    have hd : (decide ((0 : Nat) = 0) && decide (0 < p)) = decide ((p : Int) > 0) := by
      by_cases hp0 : 0 < p
      · rw [decide_eq_true hp0, decide_eq_true (show (p : Int) > 0 by omega)]; rfl
      · rw [decide_eq_false hp0, decide_eq_false (show ¬ (p : Int) > 0 by omega)]; rfl
    rw [hd] at h
    exact h
  · rw [if_neg (by omega)]
    rw [decide_eq_false he, Bool.false_and] at h
    exact h
theorem bytes_r (a : List UInt8) : (⟨#[82]⟩ ++ S a : ByteArray) = S (82 :: a) := S_append [82] a
theorem bytes_s (a : List UInt8) : (S a ++ ⟨#[47]⟩ : ByteArray) = S (a ++ [47]) := S_append a [47]
theorem bytes_rs (a : List UInt8) : (⟨#[82, 47]⟩ ++ S a : ByteArray) = S (82 :: 47 :: a) := S_append [82, 47] a
theorem cyc_text (n : Nat) (h1 : 0 < n) (h2 : n < 10000000) (s : List UInt8) (hs : s.length ≤ 200) (k : Nat) (hk : 300 ≤ k) :
    cycle_Parse.f k (S (82 :: Lib.decDigits n ++ [47] ++ s)) = V (if 1000000 < n then (0, 0, 3) else tailC n s) := by
  have hlen := dec_len n 6 (by rw [show (10 : Nat) ^ (6 + 1) = 10000000 by decide]; exact h2)
  have hL : (82 :: Lib.decDigits n ++ [47] ++ s).length ≤ 209 := by simp only [List.length_append, List.length_cons, List.length_nil]; omega
  rw [cyc_parse _ (by omega) k (by omega)]
  have e : cycL (82 :: Lib.decDigits n ++ [47] ++ s) = cycR (Lib.decDigits n ++ 47 :: s) := by
    rw [List.append_assoc]; rfl
  rw [e, cyc_dec n h1 h2 s]
theorem V_eq (r : Nat × Nat × Nat) : Cyc.V r = some ((r.1 : Int), (r.2.1 : Int), (r.2.2 : Int)) := rfl
theorem num_1 (n : Nat) : wrap64 (1 + Int.tmod (wrap64 (n : Int)) 1000000) = ((1 + n % 1000000 : Nat) : Int) ∨ 4294967296 ≤ n := by
  by_cases h : n < 4294967296
  · left
    have w1 : wrap64 (n : Int) = (n : Int) := by unfold wrap64; omega
    rw [w1, Int.tmod_eq_emod_of_nonneg (by omega)]
    unfold wrap64; omega
  · right; omega
theorem num_u (n : Nat) (h : n < 9223372036854775808) : IntKind.u64.wrap (n : Int) = (n : Int) := by rw [IntKind.wrap_u64]; omega
theorem num_2 (n : Nat) (h : n < 100000000) : wrap64 (1000000 + (n : Int)) = ((1000000 + n : Nat) : Int) := by unfold wrap64; omega
theorem CycleErrors : remontoirlaw03_CycleErrors.Pure := by
  intro a0 a1 h0 hs
  have b0 := wf_u32 h0
  obtain ⟨n0, rfl⟩ := Int.eq_ofNat_of_zero_le b0.1
  obtain ⟨l, rfl⟩ : ∃ l, a1 = S l := ⟨_, (S_of a1).symm⟩
  rw [S_size] at hs
  refine ⟨400, ?_⟩
  unfold remontoirlaw03_CycleErrors.f
  rw [S_size, wakes_ok 400 (by omega)]
  by_cases hl : (l.length : Int) > 200
  · rw [if_pos hl]; rfl
  rw [if_neg hl]
  have hl' : l.length ≤ 200 := by omega
  have hn0 : n0 < 4294967296 := by omega
  have e1 : wrap64 (1 + Int.tmod (wrap64 (n0 : Int)) 1000000) = ((1 + n0 % 1000000 : Nat) : Int) := (num_1 n0).resolve_right (by omega)
  have hn1 : 0 < 1 + n0 % 1000000 := by omega
  have hn2 : 1 + n0 % 1000000 ≤ 1000000 := by omega
  clear hl b0 h0 hn0
  generalize 1 + n0 % 1000000 = n at e1 hn1 hn2
  have e2 := num_u n (by omega)
  have e3 := num_2 n (by omega)
  have e4 := num_u (1000000 + n) (by omega)
  rw [e1, e2, e3, e4]
  clear e1 e2 e3 e4
  have d1 := digits_k n (by omega) 400 (by omega)
  have d2 := digits_k (1000000 + n) (by omega) 400 (by omega)
  have l1 := dec_len n 6 (by rw [show (10 : Nat) ^ (6 + 1) = 10000000 by decide]; omega)
  have l2 := dec_len (1000000 + n) 6 (by rw [show (10 : Nat) ^ (6 + 1) = 10000000 by decide]; omega)
  have c1 := cyc_text n hn1 (by omega) l hl' 400 (by omega)
  have c2 := cyc_text (1000000 + n) (by omega) (by omega) l hl' 400 (by omega)
  rw [if_neg (by omega)] at c1
  rw [if_pos (by omega)] at c2
  have c3 : cycle_Parse.f 400 (S (82 :: 47 :: l)) = Cyc.V (0, 0, 5) := by
    rw [cyc_parse _ (by simp only [List.length_cons]; omega) 400 (by simp only [List.length_cons]; omega)]; rfl
  have p1 := parse_at l (by omega)
  have hj := e_j0 n (parseL l).1 (parseL l).2 l rfl 400 (by omega)
  rw [V_eq] at c1 c2 c3
  rw [d1, Option.bind_some, S_size, if_pos (by omega), bytes_r, S_size, List.length_cons, if_pos (by omega), bytes_s, S_size, List.length_append, List.length_cons, if_pos (by simp only [List.length_cons, List.length_nil]; omega), S_append,
    c1, Option.bind_some, p1, Option.bind_some, if_pos (by omega), bytes_rs, c3, Option.bind_some, d2, Option.bind_some, S_size, if_pos (by omega), bytes_r, S_size, List.length_cons, if_pos (by omega), bytes_s, S_size, List.length_append, List.length_cons, if_pos (by simp only [List.length_cons, List.length_nil]; omega), S_append,
    c2, Option.bind_some]
  refine (if_pos rfl).trans ?_
  exact hj
end Go.Proofs.YtjkdibkgmfnkdaaDoor.Pure
