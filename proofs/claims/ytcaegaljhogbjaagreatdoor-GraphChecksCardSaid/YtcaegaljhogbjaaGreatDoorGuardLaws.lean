/- Reading a guard comes to an end, and the code and the reference come to the same error. -/
import Derived.Test.YtcaegaljhogbjaaGreatDoorGx2
import Derived.Test.YtcaegaljhogbjaaGreatDoorLexWalk
import Derived.Test.YtcaegaljhogbjaaGreatDoorLexLex
import Derived.Test.YtcaegaljhogbjaaGreatDoorGuardParse
import Derived.Test.YtcaegaljhogbjaaGreatDoorRefParse
set_option linter.unusedVariables false
set_option linter.unusedSimpArgs false
namespace Go.Proofs.YtcaegaljhogbjaaGreatDoor.Lx
open Go.RowKit Go.Proofs.YtcaegaljhogbjaaGreatDoorW.PrintWords Go.Proofs.YtcaegaljhogbjaaGreatDoorW.PrintMore Go.Proofs.YtcaegaljhogbjaaGreatDoor.G Go.Proofs.YtcaegaljhogbjaaGreatDoor.Span

theorem trim_blank (l : List UInt8) : trimB (32 :: l) = trimB l := by unfold trimB; rw [List.dropWhile_cons]; rfl
theorem trim_none (c : UInt8) (l : List UInt8) (h : c ≠ 32) : trimB (c :: l) = c :: l := by
 unfold trimB; rw [List.dropWhile_cons, if_neg (by simpa using h)]
theorem lex_blank (k : Nat) (l : List UInt8) (xs : List S118) : lexL k (32 :: l) xs = lexL k l xs := by
 cases k with
 | zero => rfl
 | succ k => unfold lexL; rw [trim_blank]
theorem lex_at (k : Nat) (c : UInt8) (l : List UInt8) (xs : List S118) (h : c ≠ 32) : lexL (k + 1) (c :: l) xs = if isD c = true then numStep (lexL k) (c :: l) xs else if isA c = true then lexL k l (xs ++ [⟨2, ((c.toNat - 97 : Nat) : Int)⟩]) else signStep (lexL k) (c :: l) xs := by
 rw [lexL, trim_none c l h]
theorem of_at : ∀ k : Nat, k < 19 → zaz.f (k : Int) = some (S (TX.getD k [])) := by
 intro k hk
 have : k = 0 ∨ k = 1 ∨ k = 2 ∨ k = 3 ∨ k = 4 ∨ k = 5 ∨ k = 6 ∨ k = 7 ∨ k = 8 ∨ k = 9 ∨ k = 10 ∨ k = 11 ∨ k = 12 ∨ k = 13 ∨ k = 14 ∨ k = 15 ∨ k = 16 ∨ k = 17 ∨ k = 18 := by omega
 rcases this with e | e | e | e | e | e | e | e | e | e | e | e | e | e | e | e | e | e | e <;> (subst e; rfl)
theorem TX_pos : ∀ k, 3 ≤ k → k < 19 → 1 ≤ (TX.getD k []).length := by
 intro k h3 hk
 have : k = 3 ∨ k = 4 ∨ k = 5 ∨ k = 6 ∨ k = 7 ∨ k = 8 ∨ k = 9 ∨ k = 10 ∨ k = 11 ∨ k = 12 ∨ k = 13 ∨ k = 14 ∨ k = 15 ∨ k = 16 ∨ k = 17 ∨ k = 18 := by omega
 rcases this with e | e | e | e | e | e | e | e | e | e | e | e | e | e | e | e <;> (subst e; decide)
/-- A value stops at one above the greatest number. -/
def cap (v : Nat) : Nat := min v 2147483648
theorem valA_app (l : List UInt8) : ∀ (a : Nat) (c : UInt8), valA (l ++ [c]) a = valA l a * 10 + (c.toNat - 48) := by
 induction l with
 | nil => intro a c; rfl
 | cons d l ih => intro a c; rw [List.cons_append, valA_cons, valA_cons, ih]
theorem valA_ge (l : List UInt8) : ∀ a, a * 10 ^ l.length ≤ valA l a := by
 induction l with
 | nil => intro a; simp [valA_nil]
 | cons c l ih =>
  intro a
  rw [valA_cons, List.length_cons, Nat.pow_succ]
  refine Nat.le_trans ?_ (ih _)
  rw [Nat.mul_comm (10 ^ l.length) 10, ← Nat.mul_assoc]
  exact Nat.mul_le_mul_right _ (by omega)
theorem getD_drop (s : List UInt8) (i j : Nat) : s.getD (i + j) 0 = (s.drop i).getD j 0 := by
 rw [List.getD_eq_getElem?_getD, List.getD_eq_getElem?_getD, List.getElem?_drop]
theorem nD_digit (l : List UInt8) : ∀ j, j < nD l → isD (l.getD j 0) = true := by
 induction l with
 | nil => intro j h; cases h
 | cons c l ih =>
  intro j h
  rw [nD] at h
  split at h
  ·
   rename_i hc
   cases j with
   | zero => exact hc
   | succ j => exact ih j (by omega)
  ·
   cases h
theorem nD_end (l : List UInt8) : nD l < l.length → isD (l.getD (nD l) 0) = false := by
 induction l with
 | nil => intro h; cases h
 | cons c l ih =>
  intro h
  rw [nD] at h ⊢
  cases hc : isD c with
  | true => rw [hc, if_pos rfl] at h; rw [if_pos rfl]; exact ih (by rw [List.length_cons] at h; omega)
  | false => rw [if_neg Bool.false_ne_true]; exact hc
theorem cap_say (v : Nat) : (((cap v : Nat) : Int) = (v : Int) ∧ (v : Int) ≤ 2147483648) ∨ (((cap v : Nat) : Int) = 2147483648 ∧ (2147483648 : Int) ≤ (v : Int)) := by
 unfold cap
 rcases Nat.le_total v 2147483648 with h | h
 ·
  exact Or.inl ⟨by rw [Nat.min_eq_left h], by omega⟩
 ·
  exact Or.inr ⟨by rw [Nat.min_eq_right h]; rfl, by omega⟩
theorem mn_say (a b : Int) : (mn a b = a ∧ a ≤ b) ∨ (mn a b = b ∧ b ≤ a) := by
 unfold mn
 split
 ·
  rename_i h; first | exact Or.inl ⟨rfl, by omega⟩ | exact Or.inr ⟨rfl, by omega⟩
 ·
  rename_i h; first | exact Or.inl ⟨rfl, by omega⟩ | exact Or.inr ⟨rfl, by omega⟩
theorem cap_step (v c : Nat) (h1 : 48 ≤ c) (h2 : c ≤ 57) : mn (wrap64 ((wrap64 (10 * ((cap v : Nat) : Int))) + (((c : Int) - 48) % 256))) 2147483648 = ((cap (v * 10 + (c - 48)) : Nat) : Int) := by
 have a := cap_say v
 have b := cap_say (v * 10 + (c - 48))
 generalize ((cap v : Nat) : Int) = x at a ⊢
 generalize ((cap (v * 10 + (c - 48)) : Nat) : Int) = y at b ⊢
 have hx : 0 ≤ x ∧ x ≤ 2147483648 := by omega
 have w1 : wrap64 (10 * x) = 10 * x := by unfold wrap64; omega
 have w2 : wrap64 (10 * x + (((c : Int) - 48) % 256)) = 10 * x + ((c : Int) - 48) := by unfold wrap64; omega
 rw [w1, w2]
 have m := mn_say (10 * x + ((c : Int) - 48)) 2147483648
 generalize mn (10 * x + ((c : Int) - 48)) 2147483648 = z at m ⊢
 omega
/-- The digits' loop comes to their end with the value so far. -/
theorem digits_loop (s : List UInt8) (hs : s.length ≤ 60) (xs : List S118) (at_ : Nat) (ha : at_ ≤ s.length) (c : Int) (k : Nat) :
  ∀ d i, nD (s.drop at_) - i = d → i ≤ nD (s.drop at_) → zad.l1 (k + d + 1) (S s) xs (at_ : Int) c ((at_ + i : Nat) : Int) ((cap (val ((s.drop at_).take i)) : Nat) : Int) = zad.j4 k (S s) xs (at_ : Int) c ((at_ + nD (s.drop at_) : Nat) : Int) ((cap (val ((s.drop at_).take (nD (s.drop at_)))) : Nat) : Int) := by
 have hn := nD_le (s.drop at_)
 rw [List.length_drop] at hn
 intro d
 induction d with
 | zero =>
  intro i h0 hi
  obtain rfl : i = nD (s.drop at_) := by omega
  rw [zad.l1]
  by_cases he : at_ + nD (s.drop at_) < s.length
  ·
   have hd := nD_end (s.drop at_) (by rw [List.length_drop]; omega)
   rw [if_pos (by rw [S_size]; omega), if_pos (by omega), S_bt, getD_drop]
   generalize hcc : (s.drop at_).getD (nD (s.drop at_)) 0 = cc at hd
   by_cases h48 : (cc.toNat : Int) ≥ 48
   ·
    rw [if_pos h48]
    have : ¬ (cc.toNat : Int) ≤ 57 := by intro h57; have := (isD_iff cc).mpr ⟨h48, h57⟩; rw [this] at hd; cases hd
    rw [if_neg this]
   ·
    rw [if_neg h48]
  ·
   rw [if_neg (by rw [S_size]; omega)]
 | succ d ih =>
  intro i h0 hi
  have hlt : i < nD (s.drop at_) := by omega
  have hd := nD_digit (s.drop at_) i hlt
  rw [show k + (d + 1) + 1 = (k + d + 1) + 1 by omega, zad.l1, if_pos (by rw [S_size]; omega), if_pos (by omega), S_bt, getD_drop]
  have hcc : (s.drop at_).take (i + 1) = (s.drop at_).take i ++ [(s.drop at_).getD i 0] := by
   rw [List.take_succ_eq_append_getElem (by rw [List.length_drop]; omega), List.getD_eq_getElem?_getD, List.getElem?_eq_getElem (by rw [List.length_drop]; omega)]; rfl
  have hnext := ih (i + 1) (by omega) (by omega)
  rw [hcc, show val ((s.drop at_).take i ++ [(s.drop at_).getD i 0]) = val ((s.drop at_).take i) * 10 + (((s.drop at_).getD i 0).toNat - 48) from valA_app _ _ _] at hnext
  generalize hg : (s.drop at_).getD i 0 = cc at hd hnext ⊢
  have hh := (isD_iff cc).mp hd
  rw [if_pos hh.1, if_pos hh.2, ← hnext]
  rw [cap_step _ _ (by omega) (by omega), show wrap64 (((at_ + i : Nat) : Int) + 1) = ((at_ + (i + 1) : Nat) : Int) by unfold wrap64; omega]
theorem mid_list (s : List UInt8) (i j : Nat) : ((S s).extract i j).toList = (s.drop i).take (j - i) := by
 rw [Lib.toList_data]
 simp [S, ByteArray.data_extract, List.extract_eq_take_drop]
theorem longest_three (l : List UInt8) : longestL l = lonGo l (TX.drop 3) 3 (0, 0) := by
 show lonGo l ([] :: [] :: [] :: TX.drop 3) 0 (0, 0) = _
 rw [lonGo, if_neg (by simp), lonGo, if_neg (by simp), lonGo, if_neg (by simp)]
/-- A sign found so far, and how long it is. -/
def Found (a b : Nat) : Prop := (a = 0 ∧ b = 0) ∨ (3 ≤ a ∧ a < 19 ∧ b = (TX.getD a []).length)
theorem found_lon (l : List UInt8) : ∀ d i a b : Nat, 19 - i = d → 3 ≤ i → Found a b → Found (lonGo l (TX.drop i) i (a, b)).1 (lonGo l (TX.drop i) i (a, b)).2 := by
 intro d
 induction d with
 | zero =>
  intro i a b h0 h3 hf
  rw [List.drop_eq_nil_of_le (show TX.length ≤ i from by show 19 ≤ i; omega)]; exact hf
 | succ d ih =>
  intro i a b h0 h3 hf
  rw [TX_drop i (by omega), lonGo]
  by_cases h : (a, b).2 < (TX.getD i []).length ∧ Lib.hasPrefix l (TX.getD i []) = true
  ·
   rw [if_pos h]; exact ih (i + 1) _ _ (by omega) (by omega) (Or.inr ⟨h3, by omega, rfl⟩)
  ·
   rw [if_neg h]; exact ih (i + 1) _ _ (by omega) (by omega) hf
theorem signs_loop (s : List UInt8) (hs : s.length ≤ 60) (xs : List S118) (at_ : Nat) (ha : at_ ≤ s.length) (k : Nat) :
  ∀ d i a b : Nat, 19 - i = d → 3 ≤ i → i ≤ 19 → Found a b → zad.l2 (k + d + 1) (S s) xs (at_ : Int) (a : Int) (i : Int) = zad.l2 (k + 1) (S s) xs (at_ : Int) ((lonGo (s.drop at_) (TX.drop i) i (a, b)).1 : Int) 19 := by
 intro d
 induction d with
 | zero =>
  intro i a b h0 h3 h19 hf
  obtain rfl : i = 19 := by omega
  rw [List.drop_eq_nil_of_le (show TX.length ≤ 19 from by show 19 ≤ 19; omega), lonGo, Nat.add_zero]
  rfl
 | succ d ih =>
  intro i a b h0 h3 h19 hf
  have hi : i < 19 := by omega
  have hp := TX_pos i h3 hi
  have hsh := TX_short i
  have hw : Aside0 (wrap64 ((i : Int) + 1) = ((i + 1 : Nat) : Int)) := ⟨by unfold wrap64; omega⟩
  have hw1 : Aside0 (wrap64 ((s.length : Int) - (at_ : Int)) = ((s.length - at_ : Nat) : Int)) := ⟨by unfold wrap64; omega⟩
  have hld : (s.drop at_).length = s.length - at_ := List.length_drop
  rw [TX_drop i hi, lonGo, show k + (d + 1) + 1 = (k + d + 1) + 1 by omega, zad.l2, if_pos (by omega), of_at i hi, Option.bind_some, S_size, S_size, hw.out, hw1.out]
  obtain ⟨t, ht⟩ : ∃ t, TX.getD i [] = t := ⟨_, rfl⟩
  have htake := Lib.hasPrefix_of_take (s.drop at_) t
  rw [ht] at hp hsh ⊢
  by_cases hlen : t.length ≤ (s.drop at_).length
  ·
   have hw2 : Aside0 (wrap64 ((at_ : Int) + (t.length : Int)) = ((at_ + t.length : Nat) : Int)) := ⟨by unfold wrap64; omega⟩
   have hml := mid_list s at_ (at_ + t.length)
   rw [show at_ + t.length - at_ = t.length by omega] at hml
   have c1 : ((s.length - at_ : Nat) : Int) ≥ (t.length : Int) := by omega
   have c2 : (0 : Int) ≤ (at_ : Int) := by omega
   have c3 : (at_ : Int) ≤ ((at_ + t.length : Nat) : Int) := by omega
   have c4 : ((at_ + t.length : Nat) : Int) ≤ (s.length : Int) := by omega
   rw [if_pos c1, if_pos c2, hw2.out, if_pos c3, if_pos c4, Int.toNat_natCast, Int.toNat_natCast]
   have hst : (S t).toList = t := by rw [Lib.toList_data, S_list]
   have hss := S_size t
   generalize S t = tv at hst hss ⊢
   generalize (S s).extract at_ (at_ + t.length) = ev at hml ⊢
   rw [hml, hst]
   by_cases he : (s.drop at_).take t.length = t
   ·
    have hpre : Lib.hasPrefix (s.drop at_) t = true := by rw [← htake, decide_eq_true hlen, Bool.true_and]; exact beq_iff_eq.mpr he
    rw [if_pos he]
    rcases hf with ⟨rfl, rfl⟩ | ⟨ha3, ha19, hb⟩
    ·
     rw [if_pos (show ((0 : Nat) : Int) = 0 from rfl), if_pos ⟨by show 0 < t.length; omega, hpre⟩]
     exact ih (i + 1) i t.length (by omega) (by omega) (by omega) (Or.inr ⟨h3, hi, by rw [ht]⟩)
    ·
     rw [if_neg (by omega), of_at a ha19, Option.bind_some, S_size, ← hb]
     by_cases hgt : b < t.length
     ·
      rw [if_pos (by omega), if_pos ⟨hgt, hpre⟩]
      exact ih (i + 1) i t.length (by omega) (by omega) (by omega) (Or.inr ⟨h3, hi, by rw [ht]⟩)
     ·
      rw [if_neg (by omega), if_neg (fun h => hgt h.1)]
      exact ih (i + 1) a b (by omega) (by omega) (by omega) (Or.inr ⟨ha3, ha19, hb⟩)
   ·
    have hpre : Lib.hasPrefix (s.drop at_) t = false := by
     rw [← htake, decide_eq_true hlen, Bool.true_and]; exact beq_eq_false_iff_ne.mpr he
    rw [if_neg he, if_neg (fun h => by rw [hpre] at h; cases h.2)]
    exact ih (i + 1) a b (by omega) (by omega) (by omega) hf
  ·
   have hpre : Lib.hasPrefix (s.drop at_) t = false := by rw [← htake, decide_eq_false hlen, Bool.false_and]
   rw [if_neg (by omega), if_neg (fun h => by rw [hpre] at h; cases h.2)]
   exact ih (i + 1) a b (by omega) (by omega) (by omega) hf
theorem isA_iff (c : UInt8) : isA c = true ↔ 97 ≤ (c.toNat : Int) ∧ (c.toNat : Int) ≤ 122 := by
 unfold isA; rw [Bool.and_eq_true, decide_eq_true_eq, decide_eq_true_eq]; omega
theorem is32 (c : UInt8) : ((c.toNat : Int) = 32) ↔ c = 32 := by
 constructor
 ·
  intro h; exact UInt8.toNat_inj.mp (by have : c.toNat = 32 := by omega
                                        exact this)
 ·
  rintro rfl; rfl
theorem lon_fin (l : List UInt8) : Found (longestL l).1 (longestL l).2 := by
 rw [longest_three]; exact found_lon l 16 3 0 0 rfl (by omega) (Or.inl ⟨rfl, rfl⟩)
/-- Eleven digits and more, the first of them not 0, are too great a number. -/
theorem val_great (l : List UInt8) (h : 10 < nD l) (h0 : l.getD 0 0 ≠ 48) : 2147483647 < val (l.take (nD l)) := by
 have hn := nD_le l
 cases l with
 | nil => simp [nD] at h
 | cons c l =>
  have hd := nD_digit (c :: l) 0 (by omega)
  have hdi := (isD_iff ((c :: l).getD 0 0)).mp hd
  have hc : (c :: l).getD 0 0 = c := rfl
  rw [hc] at hdi h0
  have hc1 : 1 ≤ c.toNat - 48 := by
   have : c.toNat ≠ 48 := fun e => h0 (UInt8.toNat_inj.mp e)
   omega
  obtain ⟨j, hj⟩ : ∃ j, nD (c :: l) = j + 1 := ⟨nD (c :: l) - 1, by omega⟩
  rw [hj, List.take_succ_cons]
  have hv := valA_ge (l.take j) (c.toNat - 48)
  have hlen : (l.take j).length = j := by rw [List.length_take]; rw [hj, List.length_cons] at hn; omega
  rw [hlen] at hv
  have hp : (10 : Nat) ^ 10 ≤ 10 ^ j := Nat.pow_le_pow_right (by omega) (by omega)
  have hten : (10 : Nat) ^ 10 = 10000000000 := by decide
  have hval : val (c :: l.take j) = valA (l.take j) (c.toNat - 48) := by unfold val; rw [valA_cons, Nat.zero_mul, Nat.zero_add]
  rw [hval]
  have h1 : 1 * 10 ^ j ≤ (c.toNat - 48) * 10 ^ j := Nat.mul_le_mul_right _ hc1
  omega
theorem lex_main (s : List UInt8) (hs : s.length ≤ 60) : ∀ (m at_ : Nat) (xs : List S118), s.length - at_ = m → at_ ≤ s.length → xs.length + m ≤ 60 →
  ∃ r : List S118 × Int, (∀ k, 100 * m + 1 ≤ k → zad.l0 k (S s) xs (at_ : Int) = some r) ∧ (∀ k, m + 1 ≤ k → lexL k (s.drop at_) xs = some r) ∧ r.1.length ≤ 60 := by
 intro m
 induction m using Nat.strongRecOn with
 | _ m ih =>
  intro at_ xs hm ha hx
  by_cases h0 : m = 0
  ·
   refine ⟨(xs, 0), fun k hk => ?_, fun k hk => ?_, by show xs.length ≤ 60; omega⟩
   ·
    obtain ⟨k, rfl⟩ : ∃ j, k = j + 1 := ⟨k - 1, by omega⟩
    rw [zad.l0, if_neg (by rw [S_size]; omega)]
   ·
    obtain ⟨k, rfl⟩ : ∃ j, k = j + 1 := ⟨k - 1, by omega⟩
    rw [List.drop_eq_nil_of_le (by omega)]; rfl
  ·
   have hlt : at_ < s.length := by omega
   have hcons : s.drop at_ = s.getD at_ 0 :: s.drop (at_ + 1) := by
    rw [List.drop_eq_getElem_cons hlt, List.getD_eq_getElem?_getD, List.getElem?_eq_getElem hlt]; rfl
   have hbt := S_bt s at_
   obtain ⟨c, hc⟩ : ∃ c, s.getD at_ 0 = c := ⟨_, rfl⟩
   rw [hc] at hcons hbt
   have hlu := c.toNat_lt
   have hw : Aside0 (wrap64 ((at_ : Int) + 1) = ((at_ + 1 : Nat) : Int)) := ⟨by unfold wrap64; omega⟩
   have first : ∀ k, zad.l0 (k + 1) (S s) xs (at_ : Int) = if (c.toNat : Int) = 32 then zad.l0 k (S s) xs ((at_ + 1 : Nat) : Int) else if (c.toNat : Int) ≥ 97 then zad.j1 k (S s) xs at_ c.toNat (decide ((c.toNat : Int) ≤ 122)) else zad.j1 k (S s) xs at_ c.toNat false := by
    intro k
    rw [zad.l0, if_pos (by rw [S_size]; omega), if_pos (by omega), hbt, hw.out]
   by_cases c32 : c = 32
   ·
    obtain ⟨r, r1, r2, r3⟩ := ih (m - 1) (by omega) (at_ + 1) xs (by omega) (by omega) (by omega)
    refine ⟨r, fun k hk => ?_, fun k hk => ?_, r3⟩
    ·
     obtain ⟨k, rfl⟩ : ∃ j, k = j + 1 := ⟨k - 1, by omega⟩
     rw [first, if_pos ((is32 c).mpr c32)]; exact r1 k (by omega)
    ·
     rw [hcons, c32, lex_blank]; exact r2 k (by omega)
   ·
    have n32 : ¬ (c.toNat : Int) = 32 := fun h => c32 ((is32 c).mp h)
    cases hA : isA c with
    | true =>
     have hAi := (isA_iff c).mp hA
     have hD : isD c = false := by
      cases hd : isD c with
      | false => rfl
      | true => have := (isD_iff c).mp hd; omega
     have he : ((c.toNat : Int) - 97) % 256 = ((c.toNat - 97 : Nat) : Int) := by omega
     obtain ⟨r, r1, r2, r3⟩ := ih (m - 1) (by omega) (at_ + 1) (xs ++ [⟨2, ((c.toNat - 97 : Nat) : Int)⟩]) (by omega) (by omega) (by rw [List.length_append, List.length_singleton]; omega)
     refine ⟨r, fun k hk => ?_, fun k hk => ?_, r3⟩
     ·
      obtain ⟨k, rfl⟩ : ∃ j, k = j + 2 := ⟨k - 2, by omega⟩
      rw [first, if_neg n32, if_pos hAi.1, decide_eq_true hAi.2, zad.j1, if_pos rfl, if_pos (by omega), he, hw.out]
      exact r1 k (by omega)
     ·
      obtain ⟨k, rfl⟩ : ∃ j, k = j + 1 := ⟨k - 1, by omega⟩
      rw [hcons, lex_at k c _ xs c32, if_neg (by rw [hD]; exact Bool.false_ne_true), if_pos hA]
      exact r2 k (by omega)
    | false =>
     have hj1 : ∀ k, zad.l0 (k + 2) (S s) xs (at_ : Int) = if (c.toNat : Int) ≥ 48 then zad.j2 k (S s) xs at_ c.toNat (decide ((c.toNat : Int) ≤ 57)) else zad.j2 k (S s) xs at_ c.toNat false := by
      intro k
      rw [first, if_neg n32]
      by_cases h97 : (c.toNat : Int) ≥ 97
      ·
       have h122 : decide ((c.toNat : Int) ≤ 122) = false := decide_eq_false (fun h => by rw [(isA_iff c).mpr ⟨h97, h⟩] at hA; cases hA)
       rw [if_pos h97, h122, zad.j1, if_neg Bool.false_ne_true]
      ·
       rw [if_neg h97, zad.j1, if_neg Bool.false_ne_true]
     cases hD : isD c with
     | true =>
      have hDi := (isD_iff c).mp hD
      have hnl := nD_le (s.drop at_)
      have hdrop : (s.drop at_).length = m := by rw [List.length_drop]; exact hm
      have hn1 : 1 ≤ nD (s.drop at_) := by rw [hcons, nD, if_pos hD]; omega
      have hg0 : (s.drop at_).getD 0 0 = c := by rw [hcons]; rfl
      have hloop := digits_loop s hs xs at_ ha (c.toNat : Int)
      have hstep : ∀ k, lexL (k + 1) (s.drop at_) xs = numStep (lexL k) (s.drop at_) xs := by
       intro k
       have h := lex_at k c (s.drop (at_ + 1)) xs c32
       rw [if_pos hD, ← hcons] at h
       exact h
      have hgr := val_great (s.drop at_)
      rw [hg0] at hgr
      obtain ⟨d, hd⟩ : ∃ d, nD (s.drop at_) = d := ⟨_, rfl⟩
      rw [hd] at hnl hn1 hloop hgr
      have hunf : ∀ k, numStep (lexL k) (s.drop at_) xs = if c = 48 ∧ 1 < d then some ([], 2) else if 10 < d ∨ 2147483647 < val ((s.drop at_).take d) then some ([], 3) else lexL k ((s.drop at_).drop d) (xs ++ [⟨1, (val ((s.drop at_).take d) : Nat)⟩]) := by
       intro k; unfold numStep; rw [hg0, hd]
      obtain ⟨v, hv⟩ : ∃ v, val ((s.drop at_).take d) = v := ⟨_, rfl⟩
      rw [hv] at hloop hgr
      simp only [hv] at hunf
      have hcap := cap_say v
      have hl0 : ∀ k, zad.l0 (k + d + 4) (S s) xs (at_ : Int) = zad.j4 k (S s) xs (at_ : Int) c.toNat ((at_ + d : Nat) : Int) ((cap v : Nat) : Int) := by
       intro k
       have h := hloop k d 0 (by omega) (by omega)
       rw [show k + d + 4 = (k + d + 1 + 1) + 2 by omega, hj1, if_pos hDi.1, decide_eq_true hDi.2, zad.j2, if_pos rfl]
       exact h
      by_cases hz : c = 48 ∧ 1 < d
      ·
       refine ⟨([], 2), fun k hk => ?_, fun k hk => ?_, by show 0 ≤ 60; omega⟩
       ·
        obtain ⟨k, rfl⟩ : ∃ j, k = (j + 2) + d + 4 := ⟨k - d - 6, by omega⟩
        rw [hl0, zad.j4, if_pos ((is48 c).mpr hz.1), hw.out, decide_eq_true (show ((at_ + d : Nat) : Int) > ((at_ + 1 : Nat) : Int) by omega), zad.j5, if_pos rfl]
       ·
        obtain ⟨k, rfl⟩ : ∃ j, k = j + 1 := ⟨k - 1, by omega⟩
        rw [hstep, hunf, if_pos hz]
      ·
       have hj5 : ∀ k, zad.l0 (k + d + 5) (S s) xs (at_ : Int) = zad.j5 k (S s) xs ((at_ + d : Nat) : Int) ((cap v : Nat) : Int) false := by
        intro k
        rw [show k + d + 5 = (k + 1) + d + 4 by omega, hl0, zad.j4]
        by_cases c48 : c = 48
        ·
         rw [if_pos ((is48 c).mpr c48), hw.out, decide_eq_false (show ¬ ((at_ + d : Nat) : Int) > ((at_ + 1 : Nat) : Int) by have : ¬ 1 < d := fun h => hz ⟨c48, h⟩; omega)]
        ·
         rw [if_neg (fun h => c48 ((is48 c).mp h))]
       by_cases hbig : 10 < d ∨ 2147483647 < v
       ·
        have hvb : 2147483647 < v := by
         rcases hbig with h | h
         ·
          exact hgr h (fun e => hz ⟨e, by omega⟩)
         ·
          exact h
        refine ⟨([], 3), fun k hk => ?_, fun k hk => ?_, by show 0 ≤ 60; omega⟩
        ·
         obtain ⟨k, rfl⟩ : ∃ j, k = (j + 1) + d + 5 := ⟨k - d - 6, by omega⟩
         rw [hj5, zad.j5, if_neg Bool.false_ne_true, if_pos (by omega)]
        ·
         obtain ⟨k, rfl⟩ : ∃ j, k = j + 1 := ⟨k - 1, by omega⟩
         rw [hstep, hunf, if_neg hz, if_pos hbig]
       ·
        have hcv : ((cap v : Nat) : Int) = (v : Int) := by omega
        obtain ⟨r, r1, r2, r3⟩ := ih (m - d) (by omega) (at_ + d) (xs ++ [⟨1, (v : Int)⟩]) (by omega) (by omega) (by rw [List.length_append, List.length_singleton]; omega)
        refine ⟨r, fun k hk => ?_, fun k hk => ?_, r3⟩
        ·
         obtain ⟨k, rfl⟩ : ∃ j, k = (j + 1) + d + 5 := ⟨k - d - 6, by omega⟩
         rw [hj5, zad.j5, if_neg Bool.false_ne_true, hcv, if_neg (by omega), if_pos (by omega)]
         exact r1 k (by omega)
        ·
         obtain ⟨k, rfl⟩ : ∃ j, k = j + 1 := ⟨k - 1, by omega⟩
         rw [hstep, hunf, if_neg hz, if_neg hbig, List.drop_drop]
         exact r2 k (by omega)
     | false =>
      have hj2 : ∀ k, zad.l0 (k + 2) (S s) xs (at_ : Int) = zad.j2 k (S s) xs at_ c.toNat false := by
       intro k
       rw [hj1]
       by_cases h48 : (c.toNat : Int) ≥ 48
       ·
        rw [if_pos h48, decide_eq_false (fun h => by rw [(isD_iff c).mpr ⟨h48, h⟩] at hD; cases hD)]
       ·
        rw [if_neg h48]
      have hlo := signs_loop s hs xs at_ ha
      have hF := lon_fin (s.drop at_)
      have hLE := longest_le (s.drop at_)
      have hdrop : (s.drop at_).length = m := by rw [List.length_drop]; exact hm
      have hstep : ∀ k, lexL (k + 1) (s.drop at_) xs = signStep (lexL k) (s.drop at_) xs := by
       intro k
       have h := lex_at k c (s.drop (at_ + 1)) xs c32
       rw [if_neg (by rw [hD]; exact Bool.false_ne_true), if_neg (by rw [hA]; exact Bool.false_ne_true), ← hcons] at h
       exact h
      unfold signStep at hstep
      have h3 := longest_three (s.drop at_)
      obtain ⟨a, ha'⟩ : ∃ a, (longestL (s.drop at_)).1 = a := ⟨_, rfl⟩
      obtain ⟨b, hb'⟩ : ∃ b, (longestL (s.drop at_)).2 = b := ⟨_, rfl⟩
      have hl0 : ∀ k, zad.l0 (k + 20) (S s) xs (at_ : Int) = zad.l2 (k + 1) (S s) xs (at_ : Int) (a : Int) 19 := by
       intro k
       have h := hlo k 16 3 0 0 rfl (by omega) (by omega) (Or.inl ⟨rfl, rfl⟩)
       rw [← h3, ha'] at h
       rw [show k + 20 = (k + 16 + 1 + 1) + 2 by omega, hj2, zad.j2, if_neg Bool.false_ne_true]
       exact h
      simp only [ha', hb'] at hstep hF hLE
      rcases hF with ⟨rfl, rfl⟩ | ⟨ha3, ha19, hb⟩
      ·
       refine ⟨([], 2), fun k hk => ?_, fun k hk => ?_, by show 0 ≤ 60; omega⟩
       ·
        obtain ⟨k, rfl⟩ : ∃ j, k = j + 20 := ⟨k - 20, by omega⟩
        rw [hl0, zad.l2, if_neg (by omega), if_pos (show ((0 : Nat) : Int) = 0 from rfl)]
       ·
        obtain ⟨k, rfl⟩ : ∃ j, k = j + 1 := ⟨k - 1, by omega⟩
        rw [hstep, if_pos rfl]
      ·
       have hb1 := TX_pos a ha3 ha19
       rw [← hb] at hb1
       have hw2 : Aside0 (wrap64 ((at_ : Int) + (b : Int)) = ((at_ + b : Nat) : Int)) := ⟨by unfold wrap64; omega⟩
       obtain ⟨r, r1, r2, r3⟩ := ih (m - b) (by omega) (at_ + b) (xs ++ [⟨(a : Int), 0⟩]) (by omega) (by omega) (by rw [List.length_append, List.length_singleton]; omega)
       refine ⟨r, fun k hk => ?_, fun k hk => ?_, r3⟩
       ·
        obtain ⟨k, rfl⟩ : ∃ j, k = j + 20 := ⟨k - 20, by omega⟩
        rw [hl0, zad.l2, if_neg (by omega), if_neg (by omega), if_pos (by omega), of_at a ha19, Option.bind_some, S_size, ← hb, hw2.out]
        exact r1 k (by omega)
       ·
        obtain ⟨k, rfl⟩ : ∃ j, k = j + 1 := ⟨k - 1, by omega⟩
        rw [hstep, if_neg (by omega), List.drop_drop]
        exact r2 k (by omega)
/-- Both cut a text alike. -/
theorem lex_alike (a0 : ByteArray) : ∃ r : List S118 × Int, lex_Lex.f a0 = some r ∧ (∀ k, 6001 ≤ k → zad.f k a0 = some r) ∧ r.1.length ≤ 60 := by
 obtain ⟨s, rfl⟩ : ∃ s, a0 = S s := ⟨_, (S_of a0).symm⟩
 unfold lex_Lex.f zad.f
 simp only [S_size, S_list]
 by_cases h : s.length > 60
 ·
  refine ⟨([], 15), if_pos h, fun k hk => if_pos (by omega), by show 0 ≤ 60; omega⟩
 ·
  obtain ⟨r, r1, r2, r3⟩ := lex_main s (by omega) s.length 0 [] rfl (by omega) (by simp only [List.length_nil]; omega)
  refine ⟨r, ?_, fun k hk => ?_, r3⟩
  ·
   rw [if_neg h]; exact r2 _ (Nat.le_refl _)
  ·
   rw [if_neg (by omega)]; exact r1 k (by omega)
end Go.Proofs.YtcaegaljhogbjaaGreatDoor.Lx

set_option linter.unusedVariables false
set_option linter.unusedSimpArgs false
namespace Go.Proofs.YtcaegaljhogbjaaGreatDoor.Gd
open Go.RowKit Go.Proofs.YtcaegaljhogbjaaGreatDoor.G Go.Proofs.YtcaegaljhogbjaaGreatDoor.Lx Go.Proofs.YtcaegaljhogbjaaGreatDoor.Rg

def rank : NT → Nat
  | .factor => 1 | .product => 2 | .sum => 3 | .one => 4 | .some => 5 | .guard => 6
/-- Read, and fewer signs are left, or wrong. -/
def Fine (l : List S118) (r : R) : Prop := ∃ x, r = some x ∧ ∀ l', x = some l' → l'.length < l.length
theorem rows_fine (th : List S118 → R) (ks : List Int) (m : Nat) (H : ∀ l, l.length < m → Fine l (th l)) : ∀ (j : Nat) (l : List S118), l.length < j → l.length ≤ m → ∃ x, rows th ks j l = some x ∧ ∀ l', x = some l' → l'.length ≤ l.length := by
  intro j
  induction j with
  | zero => intro l h; cases h
  | succ j ih =>
    intro l hj hm
    cases l with
    | nil => exact ⟨some [], rfl, fun l' h => by cases h; exact Nat.le_refl _⟩
    | cons c l =>
      rw [List.length_cons] at hj hm
      rw [rows]
      by_cases hc : ks.contains c.f0 = true
      · rw [if_pos hc]
        obtain ⟨x, hx, hlt⟩ := H l (by omega)
        rw [hx]
        cases x with
        | none => exact ⟨none, rfl, fun l' h => by cases h⟩
        | some r =>
          have hr := hlt r rfl
          obtain ⟨y, hy, hy2⟩ := ih r (by omega) (by omega)
          exact ⟨y, hy, fun l' h => by have := hy2 l' h; rw [List.length_cons]; omega⟩
      · rw [if_neg hc]; exact ⟨some (c :: l), rfl, fun l' h => by cases h; exact Nat.le_refl _⟩
theorem row_fine (th : List S118 → R) (ks : List Int) (l : List S118) (k : Nat) (H : ∀ l', l'.length ≤ l.length → Fine l' (th l')) (hk : l.length < k) : Fine l (row th ks k l) := by
  obtain ⟨x, hx, hlt⟩ := H l (Nat.le_refl _)
  unfold row
  rw [hx]
  cases x with
  | none => exact ⟨none, rfl, fun l' h => by cases h⟩
  | some r =>
    have hr := hlt r rfl
    obtain ⟨y, hy, hy2⟩ := rows_fine th ks l.length (fun l' h => H l' (by omega)) k r (by omega) (by omega)
    exact ⟨y, hy, fun l' h => by have := hy2 l' h; omega⟩
theorem pass_len {kd : Int} {l l' : List S118} (h : pass kd l = some l') : l'.length < l.length := by
  cases l with
  | nil => cases h
  | cons c l =>
    by_cases h0 : c.f0 = kd
    · rw [pass, if_pos h0] at h
      cases h; exact Nat.lt_succ_self _
    · rw [pass, if_neg h0] at h; cases h
theorem sees_len {kd : Int} {l : List S118} (h : sees kd l = true) : (l.drop 1).length < l.length := by
  cases l with
  | nil => cases h
  | cons c l => rw [List.length_cons]; show l.length < _; omega
theorem gd_fine : ∀ (n k : Nat) (nt : NT) (l : List S118), 6 * l.length + rank nt ≤ k → k ≤ n → Fine l (Gd.gd k nt l) := by
  intro n
  induction n with
  | zero => intro k nt l h hk; cases nt <;> simp [rank] at h <;> omega
  | succ n ih =>
    intro k nt l h hk
    obtain ⟨k, rfl⟩ : ∃ j, k = j + 1 := ⟨k - 1, by cases nt <;> simp [rank] at h <;> omega⟩
    have IH : ∀ nt' (l' : List S118), 6 * l'.length + rank nt' ≤ k → Fine l' (Gd.gd k nt' l') := fun nt' l' h' => ih k nt' l' h' (by omega)
    have short : ∀ nt' (l' : List S118), l'.length < l.length → 6 * l'.length + rank nt' ≤ 6 * l.length := fun nt' l' h' => by cases nt' <;> simp only [rank] <;> omega
    cases nt with
    | guard => simp only [rank] at h; exact row_fine _ _ _ _ (fun l' hl => IH .some l' (by simp only [rank]; omega)) (by omega)
    | some => simp only [rank] at h; exact row_fine _ _ _ _ (fun l' hl => IH .one l' (by simp only [rank]; omega)) (by omega)
    | sum => simp only [rank] at h; exact row_fine _ _ _ _ (fun l' hl => IH .product l' (by simp only [rank]; omega)) (by omega)
    | product => simp only [rank] at h; exact row_fine _ _ _ _ (fun l' hl => IH .factor l' (by simp only [rank]; omega)) (by omega)
    | one =>
      simp only [rank] at h
      unfold Gd.gd
      by_cases h14 : sees 14 l = true
      · rw [if_pos h14]
        have hs := sees_len h14
        obtain ⟨x, hx, hlt⟩ := IH .one (l.drop 1) (by have := short .one _ hs; omega)
        exact ⟨x, hx, fun l' e => by have := hlt l' e; omega⟩
      · rw [if_neg h14]
        by_cases h15 : sees 15 l = true
        · rw [if_pos h15]
          have hs := sees_len h15
          obtain ⟨x, hx, hlt⟩ := IH .guard (l.drop 1) (by have := short .guard _ hs; omega)
          rw [hx]
          cases x with
          | none => exact ⟨none, rfl, fun l' e => by cases e⟩
          | some r =>
            refine ⟨pass 16 r, rfl, fun l' e => ?_⟩
            have := pass_len e
            have := hlt r rfl
            omega
        · rw [if_neg h15]
          obtain ⟨x, hx, hlt⟩ := IH .sum l (by simp only [rank]; omega)
          rw [hx]
          match x, hlt with
          | none, _ => exact ⟨none, rfl, fun l' e => by cases e⟩
          | some [], _ => exact ⟨none, rfl, fun l' e => by cases e⟩
          | some (c :: r), hlt =>
            have hr := hlt (c :: r) rfl
            rw [List.length_cons] at hr
            show Fine l (if compares c.f0 = true then Gd.gd k .sum r else some none)
            by_cases hc : compares c.f0 = true
            · rw [if_pos hc]
              obtain ⟨y, hy, hy2⟩ := IH .sum r (by have := short .sum r (by omega); omega)
              exact ⟨y, hy, fun l' e => by have := hy2 l' e; omega⟩
            · rw [if_neg hc]; exact ⟨none, rfl, fun l' e => by cases e⟩
    | factor =>
      simp only [rank] at h
      unfold Gd.gd
      by_cases h12 : (sees 1 l || sees 2 l) = true
      · rw [if_pos h12]
        refine ⟨some (l.drop 1), rfl, fun l' e => ?_⟩
        cases e
        rcases Bool.or_eq_true_iff.mp h12 with e | e <;> exact sees_len e
      · rw [if_neg h12]
        by_cases h4 : sees 4 l = true
        · rw [if_pos h4]
          have hs := sees_len h4
          obtain ⟨x, hx, hlt⟩ := IH .factor (l.drop 1) (by have := short .factor _ hs; omega)
          exact ⟨x, hx, fun l' e => by have := hlt l' e; omega⟩
        · rw [if_neg h4]
          by_cases h17 : sees 17 l = true
          · rw [if_pos h17]
            have hs := sees_len h17
            obtain ⟨x, hx, hlt⟩ := IH .sum (l.drop 1) (by have := short .sum _ hs; omega)
            rw [hx]
            cases x with
            | none => exact ⟨none, rfl, fun l' e => by cases e⟩
            | some r =>
              refine ⟨pass 18 r, rfl, fun l' e => ?_⟩
              have := pass_len e
              have := hlt r rfl
              omega
          · rw [if_neg h17]; exact ⟨none, rfl, fun l' e => by cases e⟩
/-- The code's and the reference's Parse come to the same error. -/
theorem guard_alike (a0 : ByteArray) (k : Nat) (hk : 7000 ≤ k) : ∃ e : Int, zbw.f k a0 = some e ∧ zbv.f k a0 = some e := by
  obtain ⟨⟨xs, er⟩, h1, h2, h3⟩ := lex_alike a0
  have h3' : xs.length ≤ 60 := h3
  obtain ⟨x, hx, _⟩ := gd_fine k k .guard xs (by simp only [rank]; omega) (Nat.le_refl _)
  unfold zbw.f zbv.f
  rw [h1, h2 k (by omega), Option.bind_some, Option.bind_some]
  by_cases he : er = 0
  · refine ⟨outE x, ?_, ?_⟩
    · show (if er = 0 then (if xs.length ≤ 900 then _ else none) else some er) = _
      rw [if_pos he, if_pos (by omega), hx]; rfl
    · show (if er = 0 then (if xs.length ≤ 900 then _ else none) else some er) = _
      rw [if_pos he, if_pos (by omega), hx]; rfl
  · exact ⟨er, if_neg he, if_neg he⟩
/-- The error that a guard's text comes to. -/
def guardE (a0 : ByteArray) : Int := (zbw.f 7000 a0).getD 0
theorem guard_code (a0 : ByteArray) : zbw.f 7000 a0 = some (guardE a0) := by
  obtain ⟨e, h1, _⟩ := guard_alike a0 7000 (Nat.le_refl _)
  unfold guardE; rw [h1]; rfl
theorem guard_ref (a0 : ByteArray) : zbv.f 7000 a0 = some (guardE a0) := by
  obtain ⟨e, h1, h2⟩ := guard_alike a0 7000 (Nat.le_refl _)
  unfold guardE; rw [h1, h2]; rfl
theorem zbi (a0 : ByteArray) (w : World) (hW : Wrong w) : Calls Tryz.prog 46 #[.string a0] w fun e w' => ∃ v0 : Value, e = .returned (.tuple #[v0, .int .i64 (guardE a0)]) ∧ Below w.heap.size w w' := zbw.calls 7000 a0 _ w hW (guard_code a0)
theorem zbj (a0 : ByteArray) (w : World) : Calls Tryz.prog 50 #[.string a0] w fun e w' => ∃ v0 : Value, e = .returned (.tuple #[v0, .int .i64 (guardE a0)]) ∧ Below w.heap.size w w' := zbv.calls 7000 a0 _ w (guard_ref a0)
end Go.Proofs.YtcaegaljhogbjaaGreatDoor.Gd
