/- cycle's numbers: when a round comes, how many are over, as the printed functions compute them. -/
import Derived.Test.YtjkdibkgmfnkdaaDoorQx2
import Derived.Test.YtjkdibkgmfnkdaaDoorCycSpec
import Derived.Test.YtjkdibkgmfnkdaaDoorSpanNext
namespace Go.Proofs.YtjkdibkgmfnkdaaDoor.Cyc
open Go.RowKit Go.Proofs.YtjkdibkgmfnkdaaDoorW.PrintWords Go.Proofs.YtjkdibkgmfnkdaaDoor.Ext Go.Proofs.YtjkdibkgmfnkdaaDoor.B Go.Proofs.YtjkdibkgmfnkdaaDoor.Q Go.Proofs.YtjkdibkgmfnkdaaDoor.Span
set_option linter.unusedVariables false

def goodN (n e : Nat) : Prop := 1 ≤ n ∧ n ≤ 1000000 ∧ 1 ≤ e ∧ e ≤ 1125899906842624
theorem good_f (n e : Nat) (h : goodN n e) : cycle_Good.f n e = some true := by
  obtain ⟨h1, h2, h3, h4⟩ := h
  unfold cycle_Good.f
  have hb : (!((n : Int) == 0) || (!((e : Int) == 0))) = true := by
    have : ((n : Int) == 0) = false := by rw [beq_eq_false_iff_ne]; omega
    rw [this]; rfl
  rw [if_pos hb, if_pos (by omega), if_pos (by omega), if_pos (by omega), decide_eq_true (by omega)]
theorem wrapU (x : Nat) (h : x < 18446744073709551616) : IntKind.u64.wrap (x : Int) = (x : Int) := by rw [IntKind.wrap_u64]; omega
theorem sum_f (a b : Nat) (h : a + b < 18446744073709551616) : tick_Sum.f a b = some (((a + b : Nat) : Int), true) := by
  unfold tick_Sum.f
  rw [if_pos ⟨by omega, by omega, by omega, by omega⟩, if_pos (by omega), Int.natCast_add]
/-- A round within the cycle, no overflow. -/
theorem when_f (n e a x : Nat) (h : goodN n e) (h1 : 1 ≤ x) (h2 : x ≤ n) (hp : x * e < 9223372036854775808) (ha : a < 9223372036854775808) (k : Nat) (hk : 1 ≤ k) :
    cycle_When.f k n e a x = some (((a + x * e : Nat) : Int), true) := by
  obtain ⟨k, rfl⟩ : ∃ i, k = i + 1 := ⟨k - 1, by omega⟩
  have g := h
  obtain ⟨g1, g2, g3, g4⟩ := g
  have ht := times_f x e (by omega) (by omega)
  rw [if_pos (by omega)] at ht
  unfold cycle_When.f
  rw [good_f n e h, Option.bind_some, if_pos rfl, if_neg (by omega), decide_eq_false (by omega)]
  simp only [cycle_When.j0]
  rw [if_neg (by decide), wrapU x (by omega), ht, Option.bind_some, if_pos rfl, sum_f a (x * e) (by omega), Option.bind_some]
theorem when_no (n e a : Nat) (x : Int) (h : goodN n e) (hx : x < 1 ∨ (n : Int) < x) (k : Nat) (hk : 1 ≤ k) : cycle_When.f k n e a x = some (0, false) := by
  obtain ⟨k, rfl⟩ : ∃ i, k = i + 1 := ⟨k - 1, by omega⟩
  unfold cycle_When.f
  have yes : cycle_When.j0 (k + 1) (a : Int) x true (n : Int) (e : Int) = some (0, false) := by simp only [cycle_When.j0, if_true]
  rw [good_f n e h, Option.bind_some, if_pos rfl]
  by_cases h1 : x < 1
  · rw [if_pos h1, yes]
  · rw [if_neg h1, decide_eq_true (by omega), yes]
theorem past_f (n e a b : Nat) (h : goodN n e) (ha : a ≤ b) (hb : b < 18446744073709551616) : cycle_Past.f n e a b = some ((if (b - a) / e ≤ n then (b - a) / e else n : Nat) : Int) := by
  obtain ⟨g1, g2, g3, g4⟩ := h
  have hq : (b - a) / e ≤ b - a := Nat.div_le_self _ _
  unfold cycle_Past.f
  have e1 : IntKind.u64.wrap ((b : Int) - (a : Int)) = ((b - a : Nat) : Int) := by rw [IntKind.wrap_u64]; omega
  have e2 : Int.tdiv ((b - a : Nat) : Int) (e : Int) = (((b - a) / e : Nat) : Int) := by rw [Int.tdiv_eq_ediv_of_nonneg (by omega), Int.natCast_ediv]
  rw [good_f n e ⟨g1, g2, g3, g4⟩, Option.bind_some, if_pos rfl, if_neg (by omega), if_neg (by omega), e1, e2, wrapU _ (by omega), wrapU n (by omega)]
  refine congrArg some ?_
  clear e1 e2
  generalize (b - a) / e = q at *
  by_cases c : q ≤ n
  · have hm : mn (q : Int) (n : Int) = q := by unfold mn; split <;> omega
    rw [if_pos c, hm]; unfold wrap64; omega
  · have hm : mn (q : Int) (n : Int) = n := by unfold mn; split <;> omega
    rw [if_neg c, hm]; unfold wrap64; omega
end Go.Proofs.YtjkdibkgmfnkdaaDoor.Cyc
