/- What a duration's text means, as plain functions on lists of bytes: the next number and unit, the sum that stops at the greatest number, the whole text; and how it is written. No program in sight. -/
import Derived.Lib.ParseIntB
import Derived.Lib.ItoaNum
import Derived.WalkKit
namespace Go.Proofs.YtpalncojmknlbaaDoor.Span

def isD (c : UInt8) : Bool := 48 ≤ c.toNat && c.toNat ≤ 57
def valA (l : List UInt8) (a : Nat) : Nat :=
  match l with
  | [] => a
  | c :: l => valA l (a * 10 + (c.toNat - 48))
theorem valA_nil (a : Nat) : valA [] a = a := rfl
theorem valA_cons (a : Nat) (c : UInt8) (l : List UInt8) : valA (c :: l) a = valA l (a * 10 + (c.toNat - 48)) := rfl
def val (l : List UInt8) : Nat := valA l 0
theorem valA_lt (l : List UInt8) : ∀ a, (∀ c ∈ l, isD c = true) → valA l a < (a + 1) * 10 ^ l.length := by
  induction l with
  | nil => intro a _; simp only [valA_nil, List.length_nil, Nat.pow_zero, Nat.mul_one]; omega
  | cons c l ih =>
    intro a h
    have hc := h c (by simp)
    simp only [isD, Bool.and_eq_true, decide_eq_true_eq] at hc
    have := ih (a * 10 + (c.toNat - 48)) (fun d hd => h d (by simp [hd]))
    simp only [valA_cons, List.length_cons, Nat.pow_succ]
    refine Nat.lt_of_lt_of_le this ?_
    rw [Nat.mul_comm (10 ^ l.length) 10, ← Nat.mul_assoc]
    exact Nat.mul_le_mul_right _ (by omega)
theorem pow_le (n m : Nat) (h : n ≤ m) : 10 ^ n ≤ 10 ^ m := Nat.pow_le_pow_right (Nat.zero_lt_succ 9) h
theorem pow15 : (10 : Nat) ^ 15 = 1000000000000000 := by decide
theorem val_lt (l : List UInt8) (h : ∀ c ∈ l, isD c = true) (hl : l.length ≤ 15) : val l < 1000000000000000 := by
  have h1 := valA_lt l 0 h
  have h2 := pow_le _ _ hl
  rw [pow15] at h2
  rw [Nat.zero_add, Nat.one_mul] at h1
  unfold val
  exact Nat.lt_of_lt_of_le h1 h2
end Go.Proofs.YtpalncojmknlbaaDoor.Span
