/- CycleRounds, in plain words: the rounds are equally spaced; at a round's time just it and those ahead are over. -/
import Derived.Test.YtjkdibkgmfnkdaaDoorQx7
import Derived.Test.YtjkdibkgmfnkdaaDoorCycTimes
import Derived.Test.YtjkdibkgmfnkdaaDoorPureCycle
namespace Go.Proofs.YtjkdibkgmfnkdaaDoor.Pure
open Go.RowKit Go.Proofs.YtjkdibkgmfnkdaaDoorW.PrintWords Go.Proofs.YtjkdibkgmfnkdaaDoor.Ext Go.Proofs.YtjkdibkgmfnkdaaDoor.B Go.Proofs.YtjkdibkgmfnkdaaDoor.Q Go.Proofs.YtjkdibkgmfnkdaaDoor.Span Go.Proofs.YtjkdibkgmfnkdaaDoor.Cyc
set_option linter.unusedVariables false

theorem div_at (x e : Nat) (he : 1 ≤ e) : (x * e) / e = x := Nat.mul_div_cancel x (by omega)
theorem div_ahead (x e : Nat) (he : 1 ≤ e) (hx : 1 ≤ x) : (x * e - 1) / e = x - 1 := by
  have h1 : x * e = (x - 1) * e + e := by
    have : x = (x - 1) + 1 := by omega
    rw [this, Nat.add_mul, Nat.one_mul]; rfl
  rw [h1, show (x - 1) * e + e - 1 = (e - 1) + (x - 1) * e by omega, Nat.add_mul_div_right _ _ (by omega), Nat.div_eq_of_lt (by omega)]
  omega
theorem wrapN (x : Nat) (h : x < 9223372036854775808) : wrap64 (x : Int) = (x : Int) := by unfold wrap64; omega
theorem rounds_l (n e a : Nat) (hn : 1 ≤ n ∧ n ≤ 60) (he : 1 ≤ e ∧ e ≤ 4294967296) (ha : a < 4294967296) :
    ∀ m x k : Nat, n + 1 - x = m → 1 ≤ x → x ≤ n + 1 → m + 40 < k →
      remontoirlaw03_CycleRounds.l0 k (a : Int) ((a + (x - 1) * e : Nat) : Int) (x : Int) (n : Int) (e : Int) = some true := by
  have hg : goodN n e := ⟨hn.1, by omega, he.1, by omega⟩
  intro m
  induction m with
  | zero =>
    intro x k hm hx1 hx2 hk
    obtain ⟨k, rfl⟩ : ∃ i, k = i + 1 := ⟨k - 1, by omega⟩
    have hbig : (18446744073709551615 - a) / e ≥ n := by
      rw [ge_iff_le, Nat.le_div_iff_mul_le (by omega)]
      have : n * e ≤ 60 * 4294967296 := Nat.mul_le_mul hn.2 he.2
      omega
    have p1 := past_f n e a 18446744073709551615 hg (by omega) (by omega)
    have p2 := past_f n e a a hg (by omega) (by omega)
    have p1' : cycle_Past.f n e a 18446744073709551615 = some ((n : Nat) : Int) := by
      refine Eq.trans p1 (congrArg some ?_)
      split <;> omega
    have p2' : cycle_Past.f n e a a = some 0 := by
      refine Eq.trans p2 (congrArg some ?_)
      rw [Nat.sub_self, Nat.zero_div, if_pos (by omega)]; rfl
    have w1 : wrap64 ((n : Int) + 1) = (n : Int) + 1 := by unfold wrap64; omega
    simp only [remontoirlaw03_CycleRounds.l0]
    rw [if_neg (by omega), wrapU a (by omega), w1, when_no n e a _ hg (Or.inr (by omega)) k (by omega), when_no n e a 0 hg (Or.inl (by omega)) k (by omega), p1', p2', wakes_ok k (by omega)]
    simp only [Option.bind_some, Bool.false_eq_true, if_false, if_true]
  | succ m ih =>
    intro x k hm hx1 hx2 hk
    obtain ⟨k, rfl⟩ : ∃ i, k = i + 1 := ⟨k - 1, by omega⟩
    have hxn : x ≤ n := by omega
    have hmul : x * e ≤ 60 * 4294967296 := Nat.mul_le_mul (by omega) he.2
    have hstep : (x - 1) * e + e = x * e := by
      have : x = (x - 1) + 1 := by omega
      conv => rhs; rw [this, Nat.add_mul, Nat.one_mul]
    have hpos : e ≤ x * e := Nat.le_mul_of_pos_left e (by omega)
    have p1 := past_f n e a (a + x * e) hg (by omega) (by omega)
    have p2 := past_f n e a (a + x * e - 1) hg (by omega) (by omega)
    rw [show a + x * e - a = x * e by omega, div_at x e he.1, if_pos hxn] at p1
    rw [show a + x * e - 1 - a = x * e - 1 by omega, div_ahead x e he.1 hx1, if_pos (by omega)] at p2
    have c0 : (x : Int) ≤ (n : Int) := by omega
    have ca : a < 18446744073709551616 := by omega
    have hw := when_f n e a x hg hx1 hxn (by omega) (by omega) k (by omega)
    have hi := ih (x + 1) k (by omega) (by omega) (by omega) (by omega)
    rw [show x + 1 - 1 = x by omega] at hi
    have q1 : ((a + (x - 1) * e : Nat) : Int) + (e : Int) = ((a + x * e : Nat) : Int) := by rw [← hstep]; omega
    have q2 : ((a + x * e : Nat) : Int) - 1 = ((a + x * e - 1 : Nat) : Int) := by omega
    have q3 : (x : Int) - 1 = ((x - 1 : Nat) : Int) := by omega
    have b1 : a + x * e < 18446744073709551616 := by omega
    have b2 : a + x * e - 1 < 18446744073709551616 := by omega
    have b3 : x - 1 < 9223372036854775808 := by omega
    have b4 : x + 1 < 9223372036854775808 := by omega
    have w1 : IntKind.u64.wrap (((a + (x - 1) * e : Nat) : Int) + (e : Int)) = ((a + x * e : Nat) : Int) := by rw [q1]; exact wrapU _ b1
    have w2 : IntKind.u64.wrap (((a + x * e : Nat) : Int) - 1) = ((a + x * e - 1 : Nat) : Int) := by rw [q2]; exact wrapU _ b2
    have w3 : wrap64 ((x : Int) - 1) = ((x - 1 : Nat) : Int) := by rw [q3]; exact wrapN _ b3
    have w4 : wrap64 ((x : Int) + 1) = ((x + 1 : Nat) : Int) := wrapN _ b4
    simp only [remontoirlaw03_CycleRounds.l0]
    rw [if_pos c0, wrapU a ca, hw, Option.bind_some]
    simp only [w1, w2, w3, w4, p1, p2, Option.bind_some, if_true]
    exact hi
theorem CycleRounds : remontoirlaw03_CycleRounds.Pure := by
  intro a0 a1 a2 h0 h1 h2
  have b0 := wf_u16 h0
  have b1 := wf_u32 h1
  have b2 := wf_u32 h2
  obtain ⟨n, rfl⟩ := Int.eq_ofNat_of_zero_le b0.1
  obtain ⟨e, rfl⟩ := Int.eq_ofNat_of_zero_le b1.1
  obtain ⟨a, rfl⟩ := Int.eq_ofNat_of_zero_le b2.1
  refine ⟨200, ?_⟩
  unfold remontoirlaw03_CycleRounds.f
  have w1 : wrap64 (n : Int) = (n : Int) := by unfold wrap64; omega
  have w2 : Int.tmod (n : Int) 60 = ((n % 60 : Nat) : Int) := by rw [Int.tmod_eq_emod_of_nonneg (by omega)]; omega
  have w3 : wrap64 (1 + ((n % 60 : Nat) : Int)) = ((1 + n % 60 : Nat) : Int) := by unfold wrap64; omega
  have w4 : IntKind.u64.wrap (1 + (e : Int)) = ((1 + e : Nat) : Int) := by rw [IntKind.wrap_u64]; omega
  rw [w1, w2, w3, wrapU a (by omega), wrapU e (by omega), w4]
  have := rounds_l (1 + n % 60) (1 + e) a (by omega) (by omega) (by omega) (1 + n % 60 + 1 - 1) 1 200 rfl (by omega) (by omega) (by omega)
  rw [show a + (1 - 1) * (1 + e) = a by omega] at this
  exact this
end Go.Proofs.YtjkdibkgmfnkdaaDoor.Pure
