/- CycleTimes, in plain words: whether a cycle is good, how it is printed, when a round comes, how many are over: the program's answers are the reference's. -/
import Derived.Test.YtjkdibkgmfnkdaaDoorUx3
import Derived.Test.YtjkdibkgmfnkdaaDoorPureCycleMore
namespace Go.Proofs.YtjkdibkgmfnkdaaDoor.Pure
open Go.RowKit Go.Proofs.YtjkdibkgmfnkdaaDoorW.PrintWords Go.Proofs.YtjkdibkgmfnkdaaDoor.Ext Go.Proofs.YtjkdibkgmfnkdaaDoor.B Go.Proofs.YtjkdibkgmfnkdaaDoor.Q Go.Proofs.YtjkdibkgmfnkdaaDoor.T Go.Proofs.YtjkdibkgmfnkdaaDoor.U Go.Proofs.YtjkdibkgmfnkdaaDoor.Span Go.Proofs.YtjkdibkgmfnkdaaDoor.Cyc
set_option linter.unusedVariables false

def capV (x : Nat) : Int × Bool := if x < 18446744073709551616 then ((x : Int), true) else (0, false)
theorem sum_any (a b : Nat) (ha : a < 18446744073709551616) (hb : b < 18446744073709551616) : tick_Sum.f a b = some (capV (a + b)) := by
  unfold tick_Sum.f capV
  rw [if_pos ⟨by omega, by omega, by omega, by omega⟩]
  by_cases h : a + b < 18446744073709551616
  · rw [if_pos (by omega), if_pos h, Int.natCast_add]
  · rw [if_neg (by omega), if_neg h]
theorem rsum_any (a b : Nat) (ha : a < 18446744073709551616) (hb : b < 18446744073709551616) : remontoirref01_Sum.f a b = some (capV (a + b)) := by
  unfold remontoirref01_Sum.f capV
  have e1 : IntKind.u64.wrap (18446744073709551615 - (b : Int)) = 18446744073709551615 - (b : Int) := by rw [IntKind.wrap_u64]; omega
  rw [e1]
  by_cases h : a + b < 18446744073709551616
  · have e2 : IntKind.u64.wrap ((a : Int) + (b : Int)) = ((a + b : Nat) : Int) := by rw [IntKind.wrap_u64]; omega
    rw [if_neg (by omega), if_pos h, e2]
  · rw [if_pos (by omega), if_neg h]
theorem times_any (x e : Nat) (hx : x < 18446744073709551616) (he : e < 18446744073709551616) : tick_Times.f x e = some (capV (x * e)) := times_f x e hx he
theorem rtimes_any (x e : Nat) (h1 : 1 ≤ x) (hx : x < 18446744073709551616) (he : e < 18446744073709551616) : remontoirref01_Times.f x e = some (capV (x * e)) := by
  have e1 : Int.tdiv (18446744073709551615 : Int) (x : Int) = ((18446744073709551615 / x : Nat) : Int) := by rw [Int.tdiv_eq_ediv_of_nonneg (by decide)]; rfl
  have hq : 18446744073709551615 / x ≤ 18446744073709551615 := Nat.div_le_self _ _
  have e2 : IntKind.u64.wrap ((18446744073709551615 / x : Nat) : Int) = ((18446744073709551615 / x : Nat) : Int) := Cyc.wrapU _ (by omega)
  have hiff : e ≤ 18446744073709551615 / x ↔ e * x ≤ 18446744073709551615 := Nat.le_div_iff_mul_le h1
  have hm : (x : Int) * (e : Int) = ((x * e : Nat) : Int) := (Int.natCast_mul x e).symm
  unfold remontoirref01_Times.f capV
  rw [e1, e2, if_neg (by omega), hm]
  rw [Nat.mul_comm] at hiff
  generalize 18446744073709551615 / x = q at *
  clear e1 e2 hm
  generalize x * e = z at *
  by_cases h : z < 18446744073709551616
  · rw [if_neg (by omega), if_pos h, Cyc.wrapU z h]
  · rw [if_pos (by omega), if_neg h]
theorem when_eq (n e a : Nat) (g : goodN n e) (ha : a < 18446744073709551616) (i : Int) (k : Nat) : ∃ r, cycle_When.f (k + 1) n e a i = some r ∧ remontoirref03_When.f (k + 1) n e a i = some r := by
  have g' := g
  obtain ⟨g1, g2, g3, g4⟩ := g'
  unfold cycle_When.f remontoirref03_When.f
  rw [good_f n e g, rgood_f n e g, Option.bind_some, Option.bind_some, if_pos rfl, if_pos rfl]
  have hy : cycle_When.j0 (k + 1) (a : Int) i true (n : Int) (e : Int) = some (0, false) ∧ remontoirref03_When.j0 (k + 1) (a : Int) i true (n : Int) (e : Int) = some (0, false) := by
    simp only [cycle_When.j0, remontoirref03_When.j0, if_true, and_self]
  by_cases h1 : i < 1
  · rw [if_pos h1, if_pos h1]; exact ⟨_, hy⟩
  · rw [if_neg h1, if_neg h1]
    by_cases h2 : i > (n : Int)
    · rw [decide_eq_true h2]; exact ⟨_, hy⟩
    · obtain ⟨x, rfl⟩ := Int.eq_ofNat_of_zero_le (show 0 ≤ i by omega)
      rw [decide_eq_false h2]
      simp only [cycle_When.j0, remontoirref03_When.j0]
      rw [if_neg (by decide), if_neg (by decide), Cyc.wrapU x (by omega), times_any x e (by omega) (by omega), rtimes_any x e (by omega) (by omega) (by omega), Option.bind_some, Option.bind_some]
      unfold capV
      generalize x * e = z
      by_cases hz : z < 18446744073709551616
      · rw [if_pos hz]
        dsimp only
        rw [if_pos rfl, if_pos rfl, sum_any a z ha hz, rsum_any a z ha hz]
        exact ⟨_, rfl, rfl⟩
      · rw [if_neg hz]; exact ⟨_, rfl, rfl⟩
theorem when_no (n e a : Int) (g : ¬ (1 ≤ n ∧ n ≤ 1000000 ∧ 1 ≤ e ∧ e ≤ 1125899906842624)) (i : Int) (k : Nat) : ∃ r, cycle_When.f (k + 1) n e a i = some r ∧ remontoirref03_When.f (k + 1) n e a i = some r := by
  unfold cycle_When.f remontoirref03_When.f
  rw [good_no n e g, rgood_no n e g, Option.bind_some, Option.bind_some, if_neg (by decide), if_neg (by decide)]
  refine ⟨(0, false), ?_, ?_⟩
  · simp only [cycle_When.j0, if_true]
  · simp only [remontoirref03_When.j0, if_true]
theorem past_eq (n e : Nat) (a b : Int) (g : goodN n e) : ∃ r, cycle_Past.f n e a b = some r ∧ remontoirref03_Past.f n e a b = some r := by
  have g' := g
  obtain ⟨g1, g2, g3, g4⟩ := g'
  have h1 := good_f n e g
  have h2 := rgood_f n e g
  unfold cycle_Past.f remontoirref03_Past.f
  rw [h1, h2]
  simp only [Option.bind_some, if_true]
  by_cases h : b < a
  · rw [if_pos h]; exact ⟨_, rfl, rfl⟩
  · rw [if_neg h, if_neg (by omega)]; exact ⟨_, rfl, rfl⟩
theorem past_no (n e a b : Int) (g : ¬ (1 ≤ n ∧ n ≤ 1000000 ∧ 1 ≤ e ∧ e ≤ 1125899906842624)) : ∃ r, cycle_Past.f n e a b = some r ∧ remontoirref03_Past.f n e a b = some r := by
  unfold cycle_Past.f remontoirref03_Past.f
  rw [good_no n e g, rgood_no n e g]
  exact ⟨0, rfl, rfl⟩
theorem ctimes_of (n e a b i : Int) (k : Nat) (hk : 30 ≤ k) (s : ByteArray) (ok : Bool) (h1 : cycle_Print.f n e = some (s, ok)) (h3 : cycle_Good.f n e = some ok) (h4 : remontoirref03_Good.f n e = some ok) (h5 : remontoirref03_Print.f k n e = some s)
    (h2 : ∃ r, cycle_When.f k n e a i = some r ∧ remontoirref03_When.f k n e a i = some r) (h7 : ∃ r, cycle_Past.f n e a b = some r ∧ remontoirref03_Past.f n e a b = some r) : remontoirlaw03_CycleTimes.f k n e a b i = some true := by
  obtain ⟨r, h2, h6⟩ := h2
  obtain ⟨p, h7, h8⟩ := h7
  have hw := wakes_ok k hk
  unfold remontoirlaw03_CycleTimes.f
  rw [h1, Option.bind_some, h2, Option.bind_some, h3, Option.bind_some, h4, Option.bind_some, h5, Option.bind_some, h6, Option.bind_some, h7, Option.bind_some, h8, Option.bind_some, hw]
  simp only [beq_self_eq_true, Bool.and_self, if_true, Option.bind_some]
theorem ctimes (n e : Int) (a b : Nat) (ha : a < 18446744073709551616) (i : Int) : remontoirlaw03_CycleTimes.f 1001 n e a b i = some true := by
  by_cases g : 1 ≤ n ∧ n ≤ 1000000 ∧ 1 ≤ e ∧ e ≤ 1125899906842624
  · obtain ⟨n, e, rfl, rfl, gn⟩ := good_nat n e g
    exact ctimes_of n e a b i 1001 (by omega) _ _ (cprint_f n e gn) (good_f n e gn) (rgood_f n e gn) (rcprint_f n e gn 1001 (by omega)) (when_eq n e a gn ha i 1000) (past_eq n e a b gn)
  · exact ctimes_of n e a b i 1001 (by omega) _ _ (cprint_no n e g) (good_no n e g) (rgood_no n e g) (rcprint_no n e g 1001) (when_no n e a g i 1000) (past_no n e a b g)
theorem ctimes_walk (n e a b i : Int) (w : World) (hTab : Tab w) (h0 : (Lit.int .i64 n).wf = true) (h1 : (Lit.int .u64 e).wf = true) (h2 : (Lit.int .u64 a).wf = true) (h3 : (Lit.int .u64 b).wf = true) (h4 : (Lit.int .i64 i).wf = true) :
    Calls Tryd.prog 6 #[.agg #[.int .i64 n, .int .u64 e], .agg #[.int .u64 a, .int .u64 b], .int .i64 i] w fun e w' => e = .returned (.bool true) ∧ Below w.heap.size w w' := by
  have b2 := wf_u64 h2
  have b3 := wf_u64 h3
  obtain ⟨a, rfl⟩ := Int.eq_ofNat_of_zero_le b2.1
  obtain ⟨b, rfl⟩ := Int.eq_ofNat_of_zero_le b3.1
  exact remontoirlaw03_CycleTimes.calls 1001 n e a b i true w hTab rfl (ctimes n e a b (by omega) i)
end Go.Proofs.YtjkdibkgmfnkdaaDoor.Pure
