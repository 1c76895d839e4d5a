/- SpanBack, in plain words: what is printed is read as it was; what can be read is printed and read again. -/
import Derived.Test.YtmjabkegnpinoaaDoorQx3
import Derived.Test.YtmjabkegnpinoaaDoorPureSpan
import Derived.Test.YtmjabkegnpinoaaDoorSpanLaws
namespace Go.Proofs.YtmjabkegnpinoaaDoor.Span
theorem partU_opt (n : Nat) (c : UInt8) : partU n c = optU (if n = 0 then none else some n) c := by
  unfold partU; split <;> rfl
theorem oN_if (n : Nat) : oN (if n = 0 then none else some n) = n := by split <;> simp_all [oN]
theorem small_if (n : Nat) (h : n < 1000000000000000) : small (if n = 0 then none else some n) := by
  intro m hm; split at hm
  · cases hm
  · cases hm; exact h
/-- Parse inverts Print. -/
theorem parse_print (x : Nat) (h : x ≤ 1125899906842624) : parseL (printL x) = (x, 0) := by
  unfold printL
  rw [if_neg (by omega)]
  split
  · rename_i h0; subst h0; decide +kernel
  · split
    · rename_i h0 h3
      have e : [80] ++ Lib.decDigits (x / 604800) ++ [87] = 80 :: (Lib.decDigits (x / 604800) ++ [87]) := rfl
      rw [e, parse_week _ (by omega), fin_of _ (by omega)]
      exact Prod.ext (by show x / 604800 * 604800 = x; omega) rfl
    · rename_i h0 h3
      by_cases h4 : x % 86400 = 0
      · have e1 : x % 86400 / 3600 = 0 := by omega
        have e2 : x % 3600 / 60 = 0 := by omega
        have e3 : x % 60 = 0 := by omega
        rw [if_pos h4, e1, e2, e3]
        have e4 : partU (x / 86400) 68 = Lib.decDigits (x / 86400) ++ [68] := by unfold partU; rw [if_neg (by omega)]
        have e : [80] ++ partU (x / 86400) 68 ++ [] ++ partU 0 72 ++ partU 0 77 ++ partU 0 83 = 80 :: (Lib.decDigits (x / 86400) ++ [68]) := by rw [e4]; simp [partU]
        rw [e, parse_day _ (by omega), fin_of _ (by omega)]
        exact Prod.ext (by show x / 86400 * 86400 = x; omega) rfl
      · rw [if_neg h4, partU_opt, partU_opt, partU_opt, partU_opt]
        have e : ∀ a b c d : List UInt8, [80] ++ a ++ [84] ++ b ++ c ++ d = 80 :: (a ++ 84 :: (b ++ (c ++ d))) := by intro a b c d; simp
        rw [e, parse_opt _ _ _ _ ?_ (small_if _ (by omega)) (small_if _ (by omega)) (small_if _ (by omega)) ?_, oN_if, oN_if, oN_if, oN_if, fin_of _ (by omega)]
        · exact Prod.ext (by show x / 86400 * 86400 + x % 86400 / 3600 * 3600 + x % 3600 / 60 * 60 + x % 60 = x; omega) rfl
        · intro n hn; split at hn
          · cases hn
          · cases hn; omega
        · by_cases c1 : x % 86400 / 3600 = 0
          · by_cases c2 : x % 3600 / 60 = 0
            · right; right; rw [if_neg (by omega)]; simp
            · right; left; rw [if_neg c2]; simp
          · left; rw [if_neg c1]; simp
theorem dec_len' (n k : Nat) (h : n < 10 ^ (k + 1)) : (Lib.decDigits n).length ≤ k + 1 := dec_len n k h
theorem partU_len' (n k : Nat) (c : UInt8) (h : n < 10 ^ (k + 1)) : (partU n c).length ≤ k + 2 := by
  unfold partU; split
  · simp
  · rw [List.length_append]; have := dec_len n k h; simp only [List.length_cons, List.length_nil]; omega
theorem p11 : (10 : Nat) ^ (10 + 1) = 100000000000 := by decide
theorem p2 : (10 : Nat) ^ (1 + 1) = 100 := by decide
theorem print_len (x : Nat) (h : x ≤ 1125899906842624) : (printL x).length ≤ 40 := by
  unfold printL
  rw [if_neg (by omega)]
  split
  · decide
  · split
    · have := dec_len (x / 604800) 10 (by rw [p11]; omega)
      simp only [List.length_append, List.length_cons, List.length_nil]; omega
    · have l1 := partU_len' (x / 86400) 10 68 (by rw [p11]; omega)
      have l2 := partU_len' (x % 86400 / 3600) 1 72 (by rw [p2]; omega)
      have l3 := partU_len' (x % 3600 / 60) 1 77 (by rw [p2]; omega)
      have l4 := partU_len' (x % 60) 1 83 (by rw [p2]; omega)
      simp only [List.length_append]
      split <;> simp only [List.length_cons, List.length_nil] <;> omega
end Go.Proofs.YtmjabkegnpinoaaDoor.Span
namespace Go.Proofs.YtmjabkegnpinoaaDoor.Pure
open Go.RowKit Go.Proofs.YtmjabkegnpinoaaDoorW.PrintWords Go.Proofs.YtmjabkegnpinoaaDoor.Ext Go.Proofs.YtmjabkegnpinoaaDoor.B Go.Proofs.YtmjabkegnpinoaaDoor.Q Go.Proofs.YtmjabkegnpinoaaDoor.Span
theorem back_j (s : ByteArray) (hs : s.size ≤ 140737488351232) : remontoirlaw02_SpanBack.j0 1 s false = some true := by
  obtain ⟨l, rfl⟩ : ∃ l, s = S l := ⟨_, (S_of s).symm⟩
  rw [S_size] at hs
  simp only [remontoirlaw02_SpanBack.j0]
  rw [if_neg (by decide), parse_at l hs, wakes_ok]
  simp only [Option.bind_some]
  by_cases h : (((parseL l).2 : Nat) : Int) = 0
  · have h' : parseL l = ((parseL l).1, 0) := Prod.ext rfl (by show (parseL l).2 = 0; omega)
    have hz := parse_le l _ h'
    have hl := print_len _ hz
    rw [if_pos h, print_at _ (by omega)]
    simp only [Option.bind_some]
    rw [parse_at _ (by omega), parse_print _ hz]
    simp only [Option.bind_some]
    rw [if_pos (by omega), if_pos (decide_eq_true hz), if_pos (show ((0 : Nat) : Int) = 0 from rfl)]
    simp only [if_true]
  · rw [if_neg h]
theorem SpanBack : remontoirlaw02_SpanBack.Pure := by
  intro a0 s hw hs
  have hb := wf_u64 hw
  obtain ⟨x, rfl⟩ := Int.eq_ofNat_of_zero_le hb.1
  refine ⟨1, ?_⟩
  unfold remontoirlaw02_SpanBack.f
  rw [wakes_ok]
  by_cases h3 : (s.size : Int) > 300
  · rw [if_pos h3]; rfl
  · have e : Int.tmod (x : Int) 1125899906842625 = ((x % 1125899906842625 : Nat) : Int) := by rw [Int.tmod_eq_emod_of_nonneg (by omega)]; omega
    have hy : x % 1125899906842625 ≤ 1125899906842624 := by omega
    generalize x % 1125899906842625 = y at *
    have hl := print_len y hy
    rw [if_neg h3, e, print_at y (by omega)]
    simp only [Option.bind_some]
    rw [parse_at _ (by omega), parse_print y hy]
    simp only [Option.bind_some]
    rw [if_pos (decide_eq_true hy), if_pos (show ((0 : Nat) : Int) = 0 from rfl), decide_eq_false (by rw [S_size]; omega)]
    simp only [if_true]
    exact back_j s hs
end Go.Proofs.YtmjabkegnpinoaaDoor.Pure
