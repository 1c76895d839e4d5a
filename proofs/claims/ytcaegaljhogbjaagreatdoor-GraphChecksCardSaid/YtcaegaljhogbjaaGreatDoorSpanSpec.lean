/- What a duration's text means, as plain functions on lists of bytes: the next number and unit, the sum that stops at the greatest number, the whole text; and how it is written. No program in sight. -/
import Derived.Lib.ParseIntB
import Derived.Lib.ItoaNum
import Derived.WalkKit
namespace Go.Proofs.YtcaegaljhogbjaaGreatDoor.Span

def isD (c : UInt8) : Bool := 48 ≤ c.toNat && c.toNat ≤ 57
def valA (l : List UInt8) (a : Nat) : Nat :=
  match l with
  | [] => a
  | c :: l => valA l (a * 10 + (c.toNat - 48))
theorem valA_nil (a : Nat) : valA [] a = a := rfl
theorem valA_cons (a : Nat) (c : UInt8) (l : List UInt8) : valA (c :: l) a = valA l (a * 10 + (c.toNat - 48)) := rfl
def val (l : List UInt8) : Nat := valA l 0
def nD : List UInt8 → Nat
  | [] => 0
  | c :: l => if isD c = true then nD l + 1 else 0
/-- The number that a text begins with, the byte behind it, the rest. -/
def nextL (l : List UInt8) : Nat × Nat × List UInt8 :=
  if nD l < 1 ∨ 15 < nD l ∨ nD l = l.length ∨ (l.getD 0 0 = 48 ∧ 1 < nD l) then (0, 0, [])
  else (val (l.take (nD l)), (l.getD (nD l) 0).toNat, l.drop (nD l + 1))
def heldN (a b : Nat) : Nat := if a + b < 18446744073709551616 then a + b else 18446744073709551615
def moreN (t n u : Nat) : Nat := if n * u < 18446744073709551616 then heldN t (n * u) else heldN t 1125899906842625
def finN (t : Nat) : Nat × Nat := if 1125899906842624 < t then (0, 3) else (t, 0)
def place (u : Nat) : Int := if u = 72 then 0 else if u = 77 then 1 else if u = 83 then 2 else -1
def unitN (p : Int) : Nat := if p = 0 then 3600 else if p = 1 then 60 else 1
def partL : Nat → List UInt8 → Nat → Int → Nat × Nat
  | 0, _, _, _ => (0, 2)
  | k + 1, l, t, last =>
    if place (nextL l).2.1 ≤ last then (0, 2)
    else if (nextL l).2.2 = [] then finN (moreN t (nextL l).1 (unitN (place (nextL l).2.1)))
    else partL k (nextL l).2.2 (moreN t (nextL l).1 (unitN (place (nextL l).2.1))) (place (nextL l).2.1)
def timeL (l : List UInt8) (t : Nat) : Nat × Nat :=
  match l with
  | 84 :: r => partL 4 r t (-1)
  | _ => (0, 2)
def dateL (r : List UInt8) : Nat × Nat :=
  if (nextL r).2.1 = 89 ∨ (nextL r).2.1 = 77 then (0, 4)
  else if (nextL r).2.1 = 87 then (if (nextL r).2.2 = [] then finN (moreN 0 (nextL r).1 604800) else (0, 2))
  else if (nextL r).2.1 = 68 then (if (nextL r).2.2 = [] then finN (moreN 0 (nextL r).1 86400) else timeL (nextL r).2.2 (moreN 0 (nextL r).1 86400))
  else (0, 2)
def parseL (l : List UInt8) : Nat × Nat :=
  match l with
  | 80 :: r => if r.head? = some 84 then timeL r 0 else dateL r
  | _ => (0, 2)

theorem valA_lt (l : List UInt8) : ∀ a, (∀ c ∈ l, isD c = true) → valA l a < (a + 1) * 10 ^ l.length := by
  induction l with
  | nil => intro a _; simp only [valA_nil, List.length_nil, Nat.pow_zero, Nat.mul_one]; omega
  | cons c l ih =>
    intro a h
    have hc := h c (by simp)
    simp only [isD, Bool.and_eq_true, decide_eq_true_eq] at hc
    have := ih (a * 10 + (c.toNat - 48)) (fun d hd => h d (by simp [hd]))
    simp only [valA_cons, List.length_cons, Nat.pow_succ]
    refine Nat.lt_of_lt_of_le this ?_
    rw [Nat.mul_comm (10 ^ l.length) 10, ← Nat.mul_assoc]
    exact Nat.mul_le_mul_right _ (by omega)
theorem pow_le (n m : Nat) (h : n ≤ m) : 10 ^ n ≤ 10 ^ m := Nat.pow_le_pow_right (Nat.zero_lt_succ 9) h
theorem pow15 : (10 : Nat) ^ 15 = 1000000000000000 := by decide
theorem pow16 : (10 : Nat) ^ 16 = 10000000000000000 := by decide
theorem val_lt (l : List UInt8) (h : ∀ c ∈ l, isD c = true) (hl : l.length ≤ 15) : val l < 1000000000000000 := by
  have h1 := valA_lt l 0 h
  have h2 := pow_le _ _ hl
  rw [pow15] at h2
  rw [Nat.zero_add, Nat.one_mul] at h1
  unfold val
  exact Nat.lt_of_lt_of_le h1 h2
theorem parse_val (l : List UInt8) : ∀ a, (∀ c ∈ l, isD c = true) → (a + 1) * 10 ^ l.length ≤ 10000000000000000 → Lib.parseUintM (2 ^ 64 - 1) a l = .ok (valA l a) := by
  induction l with
  | nil => intro a _ _; simp only [valA_nil, Lib.parseUintM]
  | cons c l ih =>
    intro a h hb
    have hc := h c (by simp)
    simp only [isD, Bool.and_eq_true, decide_eq_true_eq] at hc
    simp only [List.length_cons, Nat.pow_succ] at hb
    have hp : 1 ≤ 10 ^ l.length := Nat.pos_of_ne_zero (by simp)
    have h1 : (a + 1) * 10 ≤ 10000000000000000 := by
      refine Nat.le_trans ?_ hb
      rw [Nat.mul_comm (10 ^ l.length) 10, ← Nat.mul_assoc]
      exact Nat.le_mul_of_pos_right _ hp
    have h2 : (a * 10 + (c.toNat - 48) + 1) * 10 ^ l.length ≤ 10000000000000000 := by
      refine Nat.le_trans ?_ hb
      rw [Nat.mul_comm (10 ^ l.length) 10, ← Nat.mul_assoc]
      exact Nat.mul_le_mul_right _ (by omega)
    simp only [Lib.parseUintM, valA_cons]
    rw [if_pos hc, if_neg (by omega), if_neg (by omega)]
    exact ih _ (fun d hd => h d (by simp [hd])) h2
theorem parse_digits (l : List UInt8) (h : ∀ c ∈ l, isD c = true) (h0 : l ≠ []) (hl : l.length ≤ 15) : Lib.parseUintB 64 l = .ok (val l) := by
  unfold Lib.parseUintB
  rw [if_neg h0]
  refine parse_val l 0 h ?_
  have h2 := pow_le l.length 16 (by omega)
  rw [pow16] at h2
  rw [Nat.zero_add, Nat.one_mul]
  exact h2
theorem nD_le (l : List UInt8) : nD l ≤ l.length := by
  induction l with
  | nil => exact Nat.le_refl _
  | cons c l ih => simp only [nD, List.length_cons]; split <;> omega
theorem nD_in (l : List UInt8) : ∀ j, j < nD l → isD (l.getD j 0) = true := by
  induction l with
  | nil => intro j h; simp [nD] at h
  | cons c l ih =>
    intro j h
    simp only [nD] at h
    split at h
    · rename_i hc
      cases j with
      | zero => exact hc
      | succ j => exact ih j (by omega)
    · omega
theorem nD_out (l : List UInt8) (h : nD l < l.length) : isD (l.getD (nD l) 0) = false := by
  induction l with
  | nil => simp at h
  | cons c l ih =>
    by_cases hc : isD c = true
    · simp only [nD, if_pos hc, List.length_cons] at h ⊢
      exact ih (by omega)
    · simp only [nD, if_neg hc]
      simpa using hc
theorem take_isD (l : List UInt8) : ∀ c ∈ l.take (nD l), isD c = true := by
  induction l with
  | nil => simp
  | cons c l ih =>
    intro d hd
    by_cases hc : isD c = true
    · simp only [nD, if_pos hc, List.take_succ_cons] at hd
      rcases List.mem_cons.mp hd with rfl | h
      · exact hc
      · exact ih d h
    · simp only [nD, if_neg hc, List.take_zero] at hd
      simp at hd
theorem nextL_lt (l : List UInt8) : (nextL l).1 < 1000000000000000 ∧ (nextL l).2.1 < 256 ∧ (nextL l).2.2.length ≤ l.length := by
  unfold nextL
  split
  · simp
  · rename_i hn
    refine ⟨val_lt _ (take_isD l) (by rw [List.length_take]; omega), UInt8.toNat_lt _, ?_⟩
    show (l.drop (nD l + 1)).length ≤ _
    rw [List.length_drop]; omega
theorem heldN_lt (a b : Nat) : heldN a b < 18446744073709551616 := by unfold heldN; split <;> omega
theorem moreN_lt (t n u : Nat) : moreN t n u < 18446744073709551616 := by unfold moreN; split <;> exact heldN_lt _ _
theorem place_bd (u : Nat) : -1 ≤ place u ∧ place u ≤ 2 := by unfold place; split <;> (try split) <;> (try split) <;> omega
end Go.Proofs.YtcaegaljhogbjaaGreatDoor.Span
