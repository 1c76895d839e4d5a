/- The examples of the chapter on words; what words.Number computes, in plain words. -/
import Derived.Test.YthneholbmninjaaDoorQx2
import Derived.Test.YthneholbmninjaaDoorSpanLaws
import Derived.Test.YthneholbmninjaaDoorWordsLaws
namespace Go.Proofs.YthneholbmninjaaDoor.Pure
open Go.RowKit Go.Proofs.YthneholbmninjaaDoorW.PrintWords Go.Proofs.YthneholbmninjaaDoor.Ext Go.Proofs.YthneholbmninjaaDoor.Q Go.Proofs.YthneholbmninjaaDoor.Span
set_option linter.unusedVariables false

theorem wf_u32 {n : Int} (h : (Lit.int .u32 n).wf = true) : 0 ≤ n ∧ n < 4294967296 := by
  have e1 : IntKind.u32.min = 0 := rfl
  have e2 : IntKind.u32.max = 4294967295 := rfl
  simp [Lit.wf, e1, e2] at h
  omega
theorem wf_i64 {n : Int} (h : (Lit.int .i64 n).wf = true) : -9223372036854775808 ≤ n ∧ n ≤ 9223372036854775807 := by
  have e1 : IntKind.i64.min = -9223372036854775808 := rfl
  have e2 : IntKind.i64.max = 9223372036854775807 := rfl
  simp [Lit.wf, e1, e2] at h
  omega
theorem wrapN (x : Nat) (h : x < 9223372036854775808) : wrap64 (x : Int) = (x : Int) := by unfold wrap64; omega
theorem wrapS (n : Nat) (h : n ≤ 200000000000000) : wrap64 ((n : Int) + 1) = ((n + 1 : Nat) : Int) := by unfold wrap64; omega
theorem wrapU (x : Nat) (h : x < 18446744073709551616) : IntKind.u64.wrap (x : Int) = (x : Int) := by rw [IntKind.wrap_u64]; omega
/-- More rounds do no harm. -/
theorem up {α : Type} {g : Nat → Option α} (h : ∀ k, LeO (g k) (g (k + 1))) {a b : Nat} (hab : a ≤ b) {r : α} (hr : g a = some r) : g b = some r := by
  obtain ⟨j, rfl⟩ : ∃ j, b = a + j := ⟨b - a, by omega⟩
  exact more_rounds h a j r hr
theorem wakes_ok (k : Nat) (hk : 30 ≤ k) : remontoirlaw16_wakes.f k = some true :=
  up (fun k => remontoirlaw16_wakes.mono k) hk (by kernel_rfl)
theorem strOf_one (c : Int) : strOfNums [c] = S [UInt8.ofNat c.toNat] := rfl
theorem dig_one (d : Nat) (h : d < 10) : strOfNums [(IntKind.u64.wrap (48 + (d : Int))) % 256] = S [UInt8.ofNat (48 + d)] := by
  have e : ((IntKind.u64.wrap (48 + (d : Int))) % 256).toNat = 48 + d := by rw [IntKind.wrap_u64]; omega
  rw [strOf_one, e]
theorem in_f (c a b : Int) : words_in.f c a b = some (decide (a ≤ c ∧ c ≤ b)) := by
  unfold words_in.f
  by_cases h : a ≤ c
  · rw [if_pos h]
    by_cases h2 : c ≤ b
    · rw [decide_eq_true h2, decide_eq_true ⟨h, h2⟩]
    · rw [decide_eq_false h2, decide_eq_false (fun x => h2 x.2)]
  · rw [if_neg h, decide_eq_false (fun x => h x.1)]
/-! ### words.Number -/
def numV (l : List UInt8) (most : Int) : Int × Bool :=
  if l.length < 1 ∨ 9 < l.length ∨ (l.getD 0 0 = 48 ∧ 1 < l.length) ∨ ¬ (l.all isD = true) then (0, false)
  else if (val l : Int) ≤ most then ((val l : Int), true) else (0, false)
theorem num_no (l : List UInt8) (most : Int) (h : l.length < 1 ∨ 9 < l.length ∨ (l.getD 0 0 = 48 ∧ 1 < l.length) ∨ ¬ (l.all isD = true)) : numV l most = (0, false) := if_pos h
theorem num_l0 (l : List UInt8) (most : Int) (h1 : 1 ≤ l.length) (h9 : l.length ≤ 9) (h0 : ¬ (l.getD 0 0 = 48 ∧ 1 < l.length)) :
    ∀ m j k : Nat, l.length - j = m → j ≤ l.length → (l.take j).all isD = true → m < k → words_Number.l0 k (S l) most (l.length : Int) (j : Int) = some (numV l most) := by
  intro m
  induction m with
  | zero =>
    intro j k hm hj ha hk
    obtain ⟨k, rfl⟩ : ∃ i, k = i + 1 := ⟨k - 1, by omega⟩
    rw [List.take_of_length_le (by omega)] at ha
    have hne : l ≠ [] := by intro e; rw [e] at h1; exact absurd h1 (by decide)
    have hat : strconv_Atoi.f (S l) = some (((val l : Nat) : Int), none) := by
      unfold strconv_Atoi.f
      rw [S_size, S_list, if_pos ⟨by omega, hne, ha⟩]
    have hv : numV l most = if (val l : Int) ≤ most then ((val l : Int), true) else (0, false) := by
      unfold numV
      rw [if_neg (by rintro (h | h | h | h) <;> first | omega | exact h0 h | exact h ha)]
    simp only [words_Number.l0]
    rw [if_neg (by omega), hat, Option.bind_some, hv]
    dsimp only
    by_cases hc : (val l : Int) ≤ most
    · rw [if_pos hc, if_pos hc]
    · rw [if_neg hc, if_neg hc]
  | succ m ih =>
    intro j k hm hj ha hk
    obtain ⟨k, rfl⟩ : ∃ i, k = i + 1 := ⟨k - 1, by omega⟩
    have hjl : j < l.length := by omega
    have hw := wrapS j (by omega)
    simp only [words_Number.l0]
    rw [if_pos (by omega), if_pos (by omega), if_pos (by rw [S_size]; omega), S_bt, in_f, Option.bind_some, hw]
    by_cases hd : isD (l.getD j 0) = true
    · have hi := (isD_iff _).mp hd
      rw [decide_eq_true hi, if_pos rfl]
      refine ih (j + 1) k (by omega) (by omega) ?_ (by omega)
      rw [List.take_succ_eq_append_getElem hjl, List.all_append, ha, Bool.true_and]
      rw [List.getD_eq_getElem?_getD, List.getElem?_eq_getElem hjl] at hd
      simpa using hd
    · have hi : ¬ (48 ≤ ((l.getD j 0).toNat : Int) ∧ ((l.getD j 0).toNat : Int) ≤ 57) := fun h => hd ((isD_iff _).mpr h)
      rw [decide_eq_false hi, if_neg (by decide)]
      rw [num_no l most (Or.inr (Or.inr (Or.inr (fun h => hd (List.all_eq_true.mp h _ (by
        rw [List.getD_eq_getElem?_getD, List.getElem?_eq_getElem hjl]; exact List.getElem_mem hjl))))))]
theorem num_f (l : List UInt8) (most : Int) (k : Nat) (hk : l.length + 3 < k) : words_Number.f k (S l) most = some (numV l most) := by
  obtain ⟨k, rfl⟩ : ∃ i, k = i + 1 := ⟨k - 1, by omega⟩
  unfold words_Number.f
  rw [S_size]
  by_cases h1 : l.length < 1
  · rw [if_pos (by omega), num_no l most (Or.inl h1)]
    simp only [words_Number.j0, if_true]
  rw [if_neg (by omega)]
  by_cases h9 : 9 < l.length
  · rw [if_pos (by omega), num_no l most (Or.inr (Or.inl h9))]
    simp only [words_Number.j0, if_true]
  rw [if_neg (by omega), if_pos (by omega)]
  have h0 : bt (S l) 0 = ((l.getD 0 0).toNat : Int) := S_bt l 0
  rw [h0]
  by_cases h48 : l.getD 0 0 = 48
  · rw [if_pos ((is48 _).mpr h48)]
    by_cases hl : 1 < l.length
    · rw [decide_eq_true (by omega), num_no l most (Or.inr (Or.inr (Or.inl ⟨h48, hl⟩)))]
      simp only [words_Number.j0, if_true]
    · rw [decide_eq_false (by omega)]
      simp only [words_Number.j0]
      rw [if_neg (by decide), S_size]
      exact num_l0 l most (by omega) (by omega) (by omega) l.length 0 k (by omega) (by omega) rfl (by omega)
  · rw [if_neg (fun e => h48 ((is48 _).mp e))]
    simp only [words_Number.j0]
    rw [if_neg (by decide), S_size]
    exact num_l0 l most (by omega) (by omega) (fun h => h48 h.1) l.length 0 k (by omega) (by omega) rfl (by omega)
end Go.Proofs.YthneholbmninjaaDoor.Pure
