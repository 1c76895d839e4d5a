/- The reference's digits and parts: what the printed functions compute is the decimal numeral; the reference's Print by hand. -/
import Derived.Test.YtmjabkegnpinoaaDoorBx2
import Derived.Test.YtmjabkegnpinoaaDoorSpanPrint
namespace Go.Proofs.YtmjabkegnpinoaaDoor.Span
open Go.RowKit Go.Proofs.YtmjabkegnpinoaaDoorW.PrintWords Go.Proofs.YtmjabkegnpinoaaDoor.Ext Go.Proofs.YtmjabkegnpinoaaDoor.B
set_option linter.unusedVariables false

theorem strOf_one (c : Int) : strOfNums [c] = S [UInt8.ofNat c.toNat] := rfl
theorem dig_one (d : Nat) (h : d < 10) : strOfNums [(IntKind.u64.wrap (48 + (d : Int))) % 256] = S [UInt8.ofNat (48 + d)] := by
  have e : ((IntKind.u64.wrap (48 + (d : Int))) % 256).toNat = 48 + d := by rw [IntKind.wrap_u64]; omega
  rw [strOf_one, e]
theorem digits_len (n : Nat) (h : n < 18446744073709551616) : (Lib.decDigits n).length ≤ 20 := by
  rw [Lib.decDigits_length]
  by_cases h0 : n = 0
  · subst h0; rw [Lib.nDigits_small (by omega)]; omega
  · have := Lib.numDigits_eq n (by omega) h
    split at this <;> omega
theorem digits_go (k : Nat) : ∀ n : Nat, n < 10 ^ (k + 1) → n < 18446744073709551616 → remontoirref02_Digits.f (k + 1) n = some (S (Lib.decDigits n)) := by
  induction k with
  | zero =>
    intro n h _
    have c : n < 10 := h
    simp only [remontoirref02_Digits.f]
    rw [if_pos (by omega), Lib.decDigits_one c, dig_one n c]
  | succ k ih =>
    intro n h h64
    rw [remontoirref02_Digits.f]
    by_cases c : n < 10
    · rw [if_pos (by omega), Lib.decDigits_one c, dig_one n c]
    · have e1 : IntKind.u64.wrap (Int.tdiv (n : Int) 10) = ((n / 10 : Nat) : Int) := by
        rw [IntKind.wrap_u64, Int.tdiv_eq_ediv_of_nonneg (by omega)]; omega
      have e2 : Int.tmod (n : Int) 10 = ((n % 10 : Nat) : Int) := by rw [Int.tmod_eq_emod_of_nonneg (by omega)]; omega
      have hk : n / 10 < 10 ^ (k + 1) := by rw [Nat.pow_succ] at h; omega
      have hd : Lib.decDigits n = Lib.decDigits (n / 10) ++ [UInt8.ofNat (48 + n % 10)] := by rw [Lib.decDigits, dif_neg c]
      rw [if_neg (by omega), e1, e2, ih (n / 10) hk (by omega), Option.bind_some, Option.bind_some, dig_one (n % 10) (by omega), hd, ← S_append]
      have hl := digits_len (n / 10) (by omega)
      rw [if_pos (by rw [S_size, S_size]; simp only [List.length_cons, List.length_nil]; omega)]
theorem digits_f (n : Nat) (h : n < 18446744073709551616) : remontoirref02_Digits.f 20 n = some (S (Lib.decDigits n)) :=
  digits_go 19 n (Nat.lt_of_lt_of_le h (by decide)) h
theorem part_f (n : Nat) (h : n < 18446744073709551616) (c : UInt8) : remontoirref02_part.f 20 n ⟨#[c]⟩ = some (S (partU n c)) := by
  unfold remontoirref02_part.f partU
  by_cases h0 : n = 0
  · rw [if_pos (by omega), if_pos h0]; rfl
  · have := digits_len n h
    rw [if_neg (by omega), if_neg h0, digits_f n h, Option.bind_some, if_pos (by rw [S_size]; show (Lib.decDigits n).length + 1 ≤ _; omega)]
    exact congrArg some (S_append _ [c])
theorem ref_part (x : Int) (n : Nat) (hx : (n : Int) = x) (h : n < 18446744073709551616) (c : UInt8) (w : World) :
    Calls Tryd.prog 24 #[.int .u64 x, .string ⟨#[c]⟩] w fun e w' => e = .returned (.string (S (partU n c))) ∧ Below w.heap.size w w' := by
  subst hx
  exact remontoirref02_part.calls 20 n ⟨#[c]⟩ _ w (part_f n h c)
theorem ref_digits (x : Int) (n : Nat) (hx : (n : Int) = x) (h : n < 18446744073709551616) (w : World) :
    Calls Tryd.prog 14 #[.int .u64 x] w fun e w' => e = .returned (.string (S (Lib.decDigits n))) ∧ Below w.heap.size w w' := by
  subst hx
  exact remontoirref02_Digits.calls 20 n _ w (digits_f n h)
theorem b_tr' {w w1 w2 : World} (h : Below w.heap.size w w1) (h2 : Below w1.heap.size w1 w2) : Below w.heap.size w w2 := h.trans (h2.mono h.size)

set_option maxHeartbeats 1000000 in
set_option maxRecDepth 100000 in
theorem rprint_week (x : Nat) (h1 : x ≤ 1125899906842624) (h2 : 0 < x) (h3 : x % 604800 = 0) (w : World) :
    Calls Tryd.prog 13 #[.int .u64 x] w fun e w' => e = .returned (.string (S (printL x))) ∧ Below w.heap.size w w' := by
  have hP : printL x = [80] ++ Lib.decDigits (x / 604800) ++ [87] := by
    unfold printL; rw [if_neg (by omega), if_neg (by omega), if_pos h3]
  have hd := ref_digits ((x : Int) / 604800) (x / 604800) (by omega) (by omega)
  have hl := digits_len (x / 604800) (by omega)
  generalize Lib.decDigits (x / 604800) = o1 at *
  have HP := Lib.hid hP
  have d3 : ((x : Int) % 604800 == 0) = true := by rw [beq_iff_eq]; omega
  have hz1 : 1 + (S o1).size ≤ 9223372036854775807 := by rw [S_size]; omega
  have hz2 : 1 + (S o1).size + 1 ≤ 9223372036854775807 := by rw [S_size]; omega
  have hz3 : (⟨#[80]⟩ ++ S o1 : ByteArray).size + 1 ≤ 9223372036854775807 := by rw [ByteArray.size_append]; exact hz2
  clear hP h3 hl
  go_enter Tryd.func13, Tryd.ntmps13
  go_wp2_with (go_at_call 14; refine (hd _).mono ?_; rintro e w' ⟨rfl, hb⟩)
  go_ret
  exact ⟨by rw [HP.out, ← S_append, ← S_append]; rfl, hb⟩
theorem rprint_zero (w : World) :
    Calls Tryd.prog 13 #[.int .u64 0] w fun e w' => e = .returned (.string (S (printL 0))) ∧ Below w.heap.size w w' := by
  go_enter Tryd.func13, Tryd.ntmps13
  go_wp2_with fail
  go_ret
  exact ⟨rfl, Below.refl _ _⟩
theorem rprint_over (x : Nat) (h1 : 1125899906842624 < x) (w : World) :
    Calls Tryd.prog 13 #[.int .u64 x] w fun e w' => e = .returned (.string (S [])) ∧ Below w.heap.size w w' := by
  go_enter Tryd.func13, Tryd.ntmps13
  go_wp2_with fail
  go_ret
  exact ⟨rfl, Below.refl _ _⟩

set_option maxHeartbeats 1000000 in
set_option maxRecDepth 100000 in
theorem rprint_date (x : Nat) (h1 : x ≤ 1125899906842624) (h2 : 0 < x) (h3 : 0 < x % 604800) (h4 : x % 86400 = 0) (w : World) :
    Calls Tryd.prog 13 #[.int .u64 x] w fun e w' => e = .returned (.string (S (printL x))) ∧ Below w.heap.size w w' := by
  have hP : printL x = [80] ++ partU (x / 86400) 68 := by
    have e1 : x % 86400 / 3600 = 0 := by omega
    have e2 : x % 3600 / 60 = 0 := by omega
    have e3 : x % 60 = 0 := by omega
    unfold printL; rw [if_neg (by omega), if_neg (by omega), if_neg (by omega), if_pos h4, e1, e2, e3]
    simp [partU]
  have hd := ref_part ((x : Int) / 86400) (x / 86400) (by omega) (by omega) 68
  have hl := partU_len (x / 86400) (by omega) 68
  generalize partU (x / 86400) 68 = o1 at *
  have HP := Lib.hid hP
  have d3 : ((x : Int) % 604800 == 0) = false := by rw [beq_eq_false_iff_ne]; omega
  have d4 : ((x : Int) % 86400 == 0) = true := by rw [beq_iff_eq]; omega
  have d4' : ((x : Int) % 86400 != 0) = false := by rw [bne_eq_false_iff_eq]; omega
  have hz1 : 1 + (S o1).size ≤ 9223372036854775807 := by rw [S_size]; omega
  clear hP h3 hl h4
  go_enter Tryd.func13, Tryd.ntmps13
  go_wp2_with (go_at_call 24; refine (hd _).mono ?_; rintro e w' ⟨rfl, hb⟩)
  go_ret
  exact ⟨by rw [HP.out, ← S_append]; rfl, hb⟩

set_option maxHeartbeats 1000000 in
set_option maxRecDepth 100000 in
theorem rprint_time (x : Nat) (h1 : x ≤ 1125899906842624) (h2 : 0 < x) (h3 : 0 < x % 604800) (h4 : 0 < x % 86400) (w : World) :
    Calls Tryd.prog 13 #[.int .u64 x] w fun e w' => e = .returned (.string (S (printL x))) ∧ Below w.heap.size w w' := by
  have hP : printL x = [80] ++ partU (x / 86400) 68 ++ [84] ++ partU (x % 86400 / 3600) 72 ++ partU (x % 3600 / 60) 77 ++ partU (x % 60) 83 := by
    unfold printL; rw [if_neg (by omega), if_neg (by omega), if_neg (by omega), if_neg (by omega)]
  have c1 := ref_part ((x : Int) / 86400) (x / 86400) (by omega) (by omega) 68
  have c2 := ref_part ((x : Int) % 86400 / 3600) (x % 86400 / 3600) (by omega) (by omega) 72
  have c3 := ref_part ((x : Int) % 3600 / 60) (x % 3600 / 60) (by omega) (by omega) 77
  have c4 := ref_part ((x : Int) % 60) (x % 60) (by omega) (by omega) 83
  have l1 := partU_len (x / 86400) (by omega) 68
  have l2 := partU_len (x % 86400 / 3600) (by omega) 72
  have l3 := partU_len (x % 3600 / 60) (by omega) 77
  have l4 := partU_len (x % 60) (by omega) 83
  generalize partU (x / 86400) 68 = o1 at *
  generalize partU (x % 86400 / 3600) 72 = o2 at *
  generalize partU (x % 3600 / 60) 77 = o3 at *
  generalize partU (x % 60) 83 = o4 at *
  have HP := Lib.hid hP
  have d3 : ((x : Int) % 604800 == 0) = false := by rw [beq_eq_false_iff_ne]; omega
  have d4 : ((x : Int) % 86400 == 0) = false := by rw [beq_eq_false_iff_ne]; omega
  have d4' : ((x : Int) % 86400 != 0) = true := by rw [bne_iff_ne]; omega
  have s1 : 1 + (S o1).size ≤ 9223372036854775807 := by rw [S_size]; omega
  have s2 : 1 + (S o2).size ≤ 9223372036854775807 := by rw [S_size]; omega
  have s3 : 1 + (S o2).size + (S o3).size ≤ 9223372036854775807 := by rw [S_size, S_size]; omega
  have s4 : 1 + (S o2).size + (S o3).size + (S o4).size ≤ 9223372036854775807 := by rw [S_size, S_size, S_size]; omega
  have s5 : 1 + (S o1).size + (1 + (S o2).size + (S o3).size + (S o4).size) ≤ 9223372036854775807 := by rw [S_size, S_size, S_size, S_size]; omega
  clear hP h3 h4 l1 l2 l3 l4
  go_enter Tryd.func13, Tryd.ntmps13
  go_wp2_with fail
  go_at_call 24
  refine (c1 _).mono ?_
  rintro e w1 ⟨rfl, hb1⟩
  go_wp2_with fail
  go_at_call 24
  refine (c2 _).mono ?_
  rintro e w2 ⟨rfl, hb2⟩
  go_wp2_with fail
  go_at_call 24
  refine (c3 _).mono ?_
  rintro e w3 ⟨rfl, hb3⟩
  go_wp2_with fail
  go_at_call 24
  refine (c4 _).mono ?_
  rintro e w4 ⟨rfl, hb4⟩
  go_wp2_with fail
  go_ret
  refine ⟨?_, b_tr' (b_tr' (b_tr' hb1 hb2) hb3) hb4⟩
  have hs : (⟨#[80]⟩ ++ S o1) ++ (((⟨#[84]⟩ ++ S o2) ++ S o3) ++ S o4) = S (printL x) := by
    rw [HP.out]
    show (S [80] ++ S o1) ++ (((S [84] ++ S o2) ++ S o3) ++ S o4) = _
    simp only [S_append, List.append_assoc]
  rw [← hs]
  rfl
theorem rprint_calls (x : Nat) (w : World) :
    Calls Tryd.prog 13 #[.int .u64 x] w fun e w' => e = .returned (.string (S (printL x))) ∧ Below w.heap.size w w' := by
  by_cases h1 : x ≤ 1125899906842624
  · by_cases h2 : x = 0
    · subst h2; exact rprint_zero w
    · by_cases h3 : x % 604800 = 0
      · exact rprint_week x h1 (by omega) h3 w
      · by_cases h4 : x % 86400 = 0
        · exact rprint_date x h1 (by omega) (by omega) h4 w
        · exact rprint_time x h1 (by omega) (by omega) (by omega) w
  · have e : printL x = [] := by unfold printL; rw [if_pos (by omega)]
    rw [e]
    exact rprint_over x (by omega) w
end Go.Proofs.YtmjabkegnpinoaaDoor.Span
namespace Go.Proofs.YtmjabkegnpinoaaDoor.Ext
open Go.RowKit Go.Proofs.YtmjabkegnpinoaaDoorW.PrintWords Go.Proofs.YtmjabkegnpinoaaDoor.Span
def remontoirref02_Print.f (a0 : Int) : Option ByteArray := if 0 ≤ a0 ∧ a0 < 18446744073709551616 then some (S (printL a0.toNat)) else none
theorem remontoirref02_Print.calls (a0 : Int) (r : ByteArray) (w : World) (h : remontoirref02_Print.f a0 = some r) :
    Calls Tryd.prog 13 #[.int .u64 a0] w fun e w' => e = .returned (.string r) ∧ Below w.heap.size w w' := by
  unfold remontoirref02_Print.f at h
  split at h
  case isFalse => cases h
  rename_i hc
  obtain ⟨h0, _⟩ := hc
  obtain ⟨x, rfl⟩ := Int.eq_ofNat_of_zero_le h0
  cases h
  exact rprint_calls x w
end Go.Proofs.YtmjabkegnpinoaaDoor.Ext
