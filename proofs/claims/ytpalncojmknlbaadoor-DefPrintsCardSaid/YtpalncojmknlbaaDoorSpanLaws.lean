/- Plain laws of durations: a numeral in front of a unit is read as that number; days, hours, minutes and seconds, each of which may be left out, last as long as they do together. No program in sight. -/
import Derived.Test.YtpalncojmknlbaaDoorSpanSpec
namespace Go.Proofs.YtpalncojmknlbaaDoor.Span

theorem valA_snoc (l : List UInt8) : ∀ (a : Nat) (c : UInt8), valA (l ++ [c]) a = valA l a * 10 + (c.toNat - 48) := by
  induction l with
  | nil => intro a c; rfl
  | cons d l ih => intro a c; rw [List.cons_append, valA_cons, valA_cons, ih]
theorem dec_len (n : Nat) : ∀ k, n < 10 ^ (k + 1) → (Lib.decDigits n).length ≤ k + 1 := by
  intro k
  induction k generalizing n with
  | zero => intro h; have h' : n < 10 := h; rw [Lib.decDigits_one h']; simp
  | succ k ih =>
    intro h
    rw [Lib.decDigits]
    split
    · simp
    · rw [List.length_append]
      have := ih (n / 10) (by rw [Nat.pow_succ] at h; omega)
      simp only [List.length_cons, List.length_nil]; omega
def small (o : Option Nat) : Prop := ∀ n, o = some n → n < 1000000000000000
end Go.Proofs.YtpalncojmknlbaaDoor.Span
