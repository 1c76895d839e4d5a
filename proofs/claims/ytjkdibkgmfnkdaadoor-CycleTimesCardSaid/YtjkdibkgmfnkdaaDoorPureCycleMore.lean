/- cycle.Good, Print, When, Past and the reference's: what they compute, in plain words. -/
import Derived.Test.YtjkdibkgmfnkdaaDoorTx1
import Derived.Test.YtjkdibkgmfnkdaaDoorSpanPrint
import Derived.Test.YtjkdibkgmfnkdaaDoorSpanLaws
import Derived.Test.YtjkdibkgmfnkdaaDoorCycTimes
import Derived.Test.YtjkdibkgmfnkdaaDoorCycParse
import Derived.Test.YtjkdibkgmfnkdaaDoorPureCycle
namespace Go.Proofs.YtjkdibkgmfnkdaaDoor.Span
theorem partU_opt (n : Nat) (c : UInt8) : partU n c = optU (if n = 0 then none else some n) c := by
  unfold partU; split <;> rfl
theorem oN_if (n : Nat) : oN (if n = 0 then none else some n) = n := by split <;> simp_all [oN]
theorem small_if (n : Nat) (h : n < 1000000000000000) : small (if n = 0 then none else some n) := by
  intro m hm; split at hm
  · cases hm
  · cases hm; exact h
/-- Parse inverts Print. -/
theorem parse_print (x : Nat) (h : x ≤ 1125899906842624) : parseL (printL x) = (x, 0) := by
  unfold printL
  rw [if_neg (by omega)]
  split
  · rename_i h0; subst h0; decide +kernel
  · split
    · rename_i h0 h3
      have e : [80] ++ Lib.decDigits (x / 604800) ++ [87] = 80 :: (Lib.decDigits (x / 604800) ++ [87]) := rfl
      rw [e, parse_week _ (by omega), fin_of _ (by omega)]
      exact Prod.ext (by show x / 604800 * 604800 = x; omega) rfl
    · rename_i h0 h3
      by_cases h4 : x % 86400 = 0
      · have e1 : x % 86400 / 3600 = 0 := by omega
        have e2 : x % 3600 / 60 = 0 := by omega
        have e3 : x % 60 = 0 := by omega
        rw [if_pos h4, e1, e2, e3]
        have e4 : partU (x / 86400) 68 = Lib.decDigits (x / 86400) ++ [68] := by unfold partU; rw [if_neg (by omega)]
        have e : [80] ++ partU (x / 86400) 68 ++ [] ++ partU 0 72 ++ partU 0 77 ++ partU 0 83 = 80 :: (Lib.decDigits (x / 86400) ++ [68]) := by rw [e4]; simp [partU]
        rw [e, parse_day _ (by omega), fin_of _ (by omega)]
        exact Prod.ext (by show x / 86400 * 86400 = x; omega) rfl
      · rw [if_neg h4, partU_opt, partU_opt, partU_opt, partU_opt]
        have e : ∀ a b c d : List UInt8, [80] ++ a ++ [84] ++ b ++ c ++ d = 80 :: (a ++ 84 :: (b ++ (c ++ d))) := by intro a b c d; simp
        rw [e, parse_opt _ _ _ _ ?_ (small_if _ (by omega)) (small_if _ (by omega)) (small_if _ (by omega)) ?_, oN_if, oN_if, oN_if, oN_if, fin_of _ (by omega)]
        · exact Prod.ext (by show x / 86400 * 86400 + x % 86400 / 3600 * 3600 + x % 3600 / 60 * 60 + x % 60 = x; omega) rfl
        · intro n hn; split at hn
          · cases hn
          · cases hn; omega
        · by_cases c1 : x % 86400 / 3600 = 0
          · by_cases c2 : x % 3600 / 60 = 0
            · right; right; rw [if_neg (by omega)]; simp
            · right; left; rw [if_neg c2]; simp
          · left; rw [if_neg c1]; simp
theorem dec_len' (n k : Nat) (h : n < 10 ^ (k + 1)) : (Lib.decDigits n).length ≤ k + 1 := dec_len n k h
theorem partU_len' (n k : Nat) (c : UInt8) (h : n < 10 ^ (k + 1)) : (partU n c).length ≤ k + 2 := by
  unfold partU; split
  · simp
  · rw [List.length_append]; have := dec_len n k h; simp only [List.length_cons, List.length_nil]; omega
theorem p11 : (10 : Nat) ^ (10 + 1) = 100000000000 := by decide
theorem p2 : (10 : Nat) ^ (1 + 1) = 100 := by decide
theorem print_len (x : Nat) (h : x ≤ 1125899906842624) : (printL x).length ≤ 40 := by
  unfold printL
  rw [if_neg (by omega)]
  split
  · decide
  · split
    · have := dec_len (x / 604800) 10 (by rw [p11]; omega)
      simp only [List.length_append, List.length_cons, List.length_nil]; omega
    · have l1 := partU_len' (x / 86400) 10 68 (by rw [p11]; omega)
      have l2 := partU_len' (x % 86400 / 3600) 1 72 (by rw [p2]; omega)
      have l3 := partU_len' (x % 3600 / 60) 1 77 (by rw [p2]; omega)
      have l4 := partU_len' (x % 60) 1 83 (by rw [p2]; omega)
      simp only [List.length_append]
      split <;> simp only [List.length_cons, List.length_nil] <;> omega
end Go.Proofs.YtjkdibkgmfnkdaaDoor.Span
namespace Go.Proofs.YtjkdibkgmfnkdaaDoor.Pure
open Go.RowKit Go.Proofs.YtjkdibkgmfnkdaaDoorW.PrintWords Go.Proofs.YtjkdibkgmfnkdaaDoor.Ext Go.Proofs.YtjkdibkgmfnkdaaDoor.B Go.Proofs.YtjkdibkgmfnkdaaDoor.Q Go.Proofs.YtjkdibkgmfnkdaaDoor.T Go.Proofs.YtjkdibkgmfnkdaaDoor.Span Go.Proofs.YtjkdibkgmfnkdaaDoor.Cyc
set_option linter.unusedVariables false

theorem digits_k (n : Nat) (h : n < 18446744073709551616) (k : Nat) (hk : 20 ≤ k) : remontoirref02_Digits.f k n = some (S (Lib.decDigits n)) := by
  obtain ⟨k, rfl⟩ : ∃ i, k = i + 1 := ⟨k - 1, by omega⟩
  exact digits_go k n (Nat.lt_of_lt_of_le h (Nat.le_trans (show 18446744073709551616 ≤ 10 ^ 20 by decide) (Nat.pow_le_pow_right (by decide) hk))) h
theorem dec_big (n : Nat) (h : n < 10000000) (h1 : 1000000 ≤ n) : (Lib.decDigits n).length ≤ 7 := dec_len n 6 (by rw [show (10 : Nat) ^ (6 + 1) = 10000000 by decide]; exact h)
/-- A number, a slash, a length. -/
theorem cyc_dec (n : Nat) (h1 : 0 < n) (h2 : n < 10000000) (s : List UInt8) : cycR (Lib.decDigits n ++ 47 :: s) = if 1000000 < n then (0, 0, 3) else tailC n s := by
  have hne := dec_ne n
  have hlen := dec_len n 6 (by rw [show (10 : Nat) ^ (6 + 1) = 10000000 by decide]; exact h2)
  have hpos : 0 < (Lib.decDigits n).length := List.length_pos_iff.mpr hne
  have hD : nD (Lib.decDigits n ++ 47 :: s) = (Lib.decDigits n).length := nD_app _ (dec_digits n) 47 rfl s
  have hg : (Lib.decDigits n ++ 47 :: s).getD (Lib.decDigits n).length 0 = 47 := by
    rw [List.getD_eq_getElem?_getD, List.getElem?_append_right (Nat.le_refl _), Nat.sub_self]; rfl
  have h0 : (Lib.decDigits n ++ 47 :: s).getD 0 0 = (Lib.decDigits n).getD 0 0 := by
    rw [List.getD_eq_getElem?_getD, List.getElem?_append_left hpos, ← List.getD_eq_getElem?_getD]
  have hc : ¬ (nD (Lib.decDigits n ++ 47 :: s) < 1 ∨ 7 < nD (Lib.decDigits n ++ 47 :: s) ∨ (Lib.decDigits n ++ 47 :: s).getD 0 0 = 48 ∨ nD (Lib.decDigits n ++ 47 :: s) = (Lib.decDigits n ++ 47 :: s).length ∨ (Lib.decDigits n ++ 47 :: s).getD (nD (Lib.decDigits n ++ 47 :: s)) 0 ≠ 47) := by
    rw [hD, hg, h0, List.length_append, List.length_cons]
    rintro (h | h | h | h | h)
    · omega
    · omega
    · exact dec_head n h1 h
    · omega
    · exact h rfl
  have ht : (Lib.decDigits n ++ 47 :: s).take (Lib.decDigits n).length = Lib.decDigits n := List.take_left' rfl
  have hd : (Lib.decDigits n ++ 47 :: s).drop ((Lib.decDigits n).length + 1) = s := by
    rw [← List.drop_drop, List.drop_left' rfl]; rfl
  unfold cycR
  rw [if_neg (head_dec n _ 47 rfl), if_neg hc, hD, ht, hd, dec_val]
theorem bytes_r (a : List UInt8) : (⟨#[82]⟩ ++ S a : ByteArray) = S (82 :: a) := S_append [82] a
theorem bytes_s (a : List UInt8) : (S a ++ ⟨#[47]⟩ : ByteArray) = S (a ++ [47]) := S_append a [47]
theorem V_eq (r : Nat × Nat × Nat) : Cyc.V r = some ((r.1 : Int), (r.2.1 : Int), (r.2.2 : Int)) := rfl
theorem good_no (n e : Int) (h : ¬ (1 ≤ n ∧ n ≤ 1000000 ∧ 1 ≤ e ∧ e ≤ 1125899906842624)) : cycle_Good.f n e = some false := by
  unfold cycle_Good.f
  split
  · split
    · split
      · split
        · rw [decide_eq_false (by omega)]
        · rfl
      · rfl
    · rfl
  · rfl
theorem rgood_no (n e : Int) (h : ¬ (1 ≤ n ∧ n ≤ 1000000 ∧ 1 ≤ e ∧ e ≤ 1125899906842624)) : remontoirref03_Good.f n e = some false := by
  unfold remontoirref03_Good.f
  split
  · split
    · split
      · rw [decide_eq_false (by omega)]
      · rfl
    · rfl
  · rfl
theorem rgood_f (n e : Nat) (h : goodN n e) : remontoirref03_Good.f n e = some true := by
  obtain ⟨h1, h2, h3, h4⟩ := h
  unfold remontoirref03_Good.f
  rw [if_pos (by omega), if_pos (by omega), if_pos (by omega), decide_eq_true (by omega)]
/-- A good cycle is two natural numbers. -/
theorem good_nat (n e : Int) (h : 1 ≤ n ∧ n ≤ 1000000 ∧ 1 ≤ e ∧ e ≤ 1125899906842624) : ∃ a b : Nat, n = (a : Int) ∧ e = (b : Int) ∧ goodN a b := by
  obtain ⟨a, rfl⟩ := Int.eq_ofNat_of_zero_le (show 0 ≤ n by omega)
  obtain ⟨b, rfl⟩ := Int.eq_ofNat_of_zero_le (show 0 ≤ e by omega)
  exact ⟨a, b, rfl, rfl, by unfold goodN; omega⟩
/-! ### Print -/
def cycP (n e : Nat) : List UInt8 := 82 :: Lib.decDigits n ++ [47] ++ printL e
theorem dec7 (n : Nat) (h : n ≤ 1000000) : (Lib.decDigits n).length ≤ 7 := dec_len n 6 (by rw [show (10 : Nat) ^ (6 + 1) = 10000000 by decide]; omega)
theorem cycP_len (n e : Nat) (h : goodN n e) : (cycP n e).length ≤ 49 := by
  obtain ⟨h1, h2, h3, h4⟩ := h
  have := dec7 n h2
  have := print_len e h4
  unfold cycP
  simp only [List.length_append, List.length_cons, List.length_nil]; omega
theorem itoa_at (n : Nat) (h : n ≤ 1000000) : strconv_Itoa.f (n : Int) = some (S (Lib.decDigits n)) := by
  unfold strconv_Itoa.f
  rw [if_pos ⟨by omega, by omega⟩, Int.toNat_natCast]; rfl
theorem print_at' (e : Nat) (h : e ≤ 1125899906842624) : span_Print.f (e : Int) = some (S (printL e), true) := by
  unfold span_Print.f
  rw [if_pos ⟨by omega, by omega⟩, Int.toNat_natCast, decide_eq_true h]
theorem rprint_at' (e : Nat) (h : e ≤ 1125899906842624) : remontoirref02_Print.f (e : Int) = some (S (printL e)) := by
  unfold remontoirref02_Print.f
  rw [if_pos ⟨by omega, by omega⟩, Int.toNat_natCast]
theorem cprint_f (n e : Nat) (h : goodN n e) : cycle_Print.f n e = some (S (cycP n e), true) := by
  have g := h
  obtain ⟨h1, h2, h3, h4⟩ := g
  have l1 := dec7 n h2
  have l2 := print_len e h4
  have z1 : (S (82 :: Lib.decDigits n)).size ≤ 8 := by rw [S_size, List.length_cons]; omega
  have z2 : (S (82 :: Lib.decDigits n ++ [47])).size ≤ 9 := by rw [S_size, List.length_append, List.length_cons]; simp only [List.length_cons, List.length_nil]; omega
  have z3 : (S (Lib.decDigits n)).size ≤ 7 := by rw [S_size]; omega
  have z4 : (S (printL e)).size ≤ 40 := by rw [S_size]; omega
  unfold cycle_Print.f
  rw [good_f n e h, Option.bind_some, if_pos rfl, print_at' e h4, Option.bind_some, itoa_at n h2, Option.bind_some, bytes_r, bytes_s, if_pos (by omega), if_pos (by omega)]
  dsimp only
  rw [if_pos (by omega), S_append]; rfl
theorem cprint_no (n e : Int) (h : ¬ (1 ≤ n ∧ n ≤ 1000000 ∧ 1 ≤ e ∧ e ≤ 1125899906842624)) : cycle_Print.f n e = some (S [], false) := by
  unfold cycle_Print.f
  rw [good_no n e h, Option.bind_some, if_neg (by decide)]; rfl
theorem rcprint_f (n e : Nat) (h : goodN n e) (k : Nat) (hk : 20 ≤ k) : remontoirref03_Print.f k n e = some (S (cycP n e)) := by
  have g := h
  obtain ⟨h1, h2, h3, h4⟩ := g
  have l1 := dec7 n h2
  have l2 := print_len e h4
  have z1 : (S (82 :: Lib.decDigits n)).size ≤ 8 := by rw [S_size, List.length_cons]; omega
  have z2 : (S (82 :: Lib.decDigits n ++ [47])).size ≤ 9 := by rw [S_size, List.length_append, List.length_cons]; simp only [List.length_cons, List.length_nil]; omega
  have z3 : (S (Lib.decDigits n)).size ≤ 7 := by rw [S_size]; omega
  have z4 : (S (printL e)).size ≤ 40 := by rw [S_size]; omega
  unfold remontoirref03_Print.f
  rw [rgood_f n e h, Option.bind_some, if_pos rfl, Cyc.wrapU n (by omega), digits_k n (by omega) k hk, Option.bind_some, bytes_r, bytes_s, if_pos (by omega), if_pos (by omega), rprint_at' e h4, Option.bind_some, if_pos (by omega), S_append]; rfl
theorem rcprint_no (n e : Int) (h : ¬ (1 ≤ n ∧ n ≤ 1000000 ∧ 1 ≤ e ∧ e ≤ 1125899906842624)) (k : Nat) : remontoirref03_Print.f k n e = some (S []) := by
  unfold remontoirref03_Print.f
  rw [rgood_no n e h, Option.bind_some, if_neg (by decide)]; rfl
/-! ### What can be read is good; what is printed is read as it was -/
theorem val_pos (c : UInt8) (l : List UInt8) (hc : isD c = true) (h0 : c ≠ 48) : 1 ≤ val (c :: l) := by
  have hi := (isD_iff c).mp hc
  have hne : c.toNat ≠ 48 := fun h => h0 (UInt8.toNat_inj.mp h)
  have ge : ∀ (l : List UInt8) (a : Nat), a ≤ valA l a := by
    intro l
    induction l with
    | nil => intro a; exact Nat.le_refl _
    | cons d l ih => intro a; rw [valA_cons]; have := ih (a * 10 + (d.toNat - 48)); omega
  unfold val
  rw [valA_cons]
  have := ge l (0 * 10 + (c.toNat - 48))
  omega
theorem cyc_good (l : List UInt8) (n e : Nat) (h : cycL l = (n, e, 0)) : goodN n e := by
  unfold cycL at h
  split at h
  · rename_i r
    unfold cycR at h
    split at h
    · cases h
    · split at h
      · cases h
      · rename_i _ hc
        split at h
        · cases h
        · rename_i hm
          unfold tailC at h
          split at h
          · rename_i hp
            split at h
            · cases h
            · rename_i hz
              simp only [Prod.mk.injEq, and_true] at h
              obtain ⟨rfl, rfl⟩ := h
              have h1 : parseL (r.drop (nD r + 1)) = ((parseL (r.drop (nD r + 1))).1, 0) := Prod.ext rfl hp
              have h2 := parse_le _ _ h1
              have h3 : 1 ≤ nD r ∧ r.getD 0 0 ≠ 48 := ⟨by omega, fun hh => hc (Or.inr (Or.inr (Or.inl hh)))⟩
              refine ⟨?_, by omega, by omega, h2⟩
              cases r with
              | nil => exact absurd h3.1 (by decide)
              | cons c r =>
                have hd : isD c = true := by
                  have := take_isD (c :: r) c
                  refine this ?_
                  obtain ⟨m, hm'⟩ : ∃ m, nD (c :: r) = m + 1 := ⟨nD (c :: r) - 1, by omega⟩
                  rw [hm', List.take_succ_cons]; simp
                obtain ⟨m, hm'⟩ : ∃ m, nD (c :: r) = m + 1 := ⟨nD (c :: r) - 1, by omega⟩
                rw [hm', List.take_succ_cons]
                exact val_pos c _ hd h3.2
          · rename_i hp
            simp only [Prod.mk.injEq] at h
            exact absurd h.2.2 hp
  · cases h
theorem cyc_round (n e : Nat) (h : goodN n e) : cycL (cycP n e) = (n, e, 0) := by
  obtain ⟨h1, h2, h3, h4⟩ := h
  have e1 : cycL (cycP n e) = cycR (Lib.decDigits n ++ 47 :: printL e) := by
    unfold cycP; rw [List.append_assoc]; rfl
  rw [e1, cyc_dec n (by omega) (by omega), if_neg (by omega)]
  unfold tailC
  rw [parse_print e h4, if_pos rfl, if_neg (by show ¬ e = 0; omega)]
end Go.Proofs.YtjkdibkgmfnkdaaDoor.Pure
