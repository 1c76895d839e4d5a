/- span.next and span.more: what the printed functions compute is what the plain ones say; their contracts in the plain words. -/
import Derived.Test.YtcaegaljhogbjaaGreatDoorBx1
import Derived.Test.YtcaegaljhogbjaaGreatDoorSpanSpec
import Derived.Lib.PathFns
namespace Go.Proofs.YtcaegaljhogbjaaGreatDoor.Span
open Go.RowKit Go.Proofs.YtcaegaljhogbjaaGreatDoorW.PrintWords Go.Proofs.YtcaegaljhogbjaaGreatDoor.Ext Go.Proofs.YtcaegaljhogbjaaGreatDoor.B
set_option linter.unusedVariables false

def S (l : List UInt8) : ByteArray := ⟨l.toArray⟩
theorem S_size (l : List UInt8) : (S l).size = l.length := by simp [S, ByteArray.size]
theorem S_list (l : List UInt8) : (S l).data.toList = l := by simp [S]
theorem S_of (s : ByteArray) : S s.data.toList = s := by cases s; simp [S]
theorem S_bt (l : List UInt8) (j : Nat) : bt (S l) (j : Int) = ((l.getD j 0).toNat : Int) := by
 unfold bt
 rw [Int.toNat_natCast]
 split
 ·
  rename_i h
  have h' : j < l.length := by rwa [S_size] at h
  simp [S, ByteArray.getElem_eq_getElem_data, List.getD, h']
 ·
  rename_i h
  have h' : l.length ≤ j := by rw [S_size] at h; omega
  simp [List.getD, h']
theorem S_from (l : List UInt8) (j : Nat) : (S l).extract j (S l).size = S (l.drop j) := by rw [Go.Lib.Pa.extract_from, S_list]; rfl
theorem S_upto (l : List UInt8) (j : Nat) : (S l).extract 0 j = S (l.take j) := by rw [Go.Lib.Pa.extract_upto, S_list]; rfl
theorem isD_iff (c : UInt8) : isD c = true ↔ 48 ≤ (c.toNat : Int) ∧ (c.toNat : Int) ≤ 57 := by
 unfold isD; rw [Bool.and_eq_true, decide_eq_true_eq, decide_eq_true_eq]; omega
theorem wrap_in {i : Int} (h0 : 0 ≤ i) (h : i ≤ 9223372036854775806) : wrap64 (i + 1) = i + 1 := by unfold wrap64; omega

def nextV (l : List UInt8) : Int × Int × ByteArray := ((nextL l).1, (nextL l).2.1, S (nextL l).2.2)
theorem empty_S : (⟨#[]⟩ : ByteArray) = S [] := rfl
theorem pu (l : List UInt8) (h1 : 1 ≤ nD l) (h2 : nD l ≤ 15) : strconv_ParseUint.f ((S l).extract 0 (nD l)) 10 64 = some (((val (l.take (nD l)) : Nat) : Int), none) := by
 have hl := nD_le l
 unfold strconv_ParseUint.f
 rw [S_upto, if_pos ⟨rfl, rfl, by rw [S_size, List.length_take]; omega⟩, S_list, parse_digits _ (take_isD l) (by intro h; have h' := congrArg List.length h; rw [List.length_take] at h'; simp only [List.length_nil] at h'; omega) (by rw [List.length_take]; omega)]
theorem nextL_ok (l : List UInt8) (h : ¬ (nD l < 1 ∨ 15 < nD l ∨ nD l = l.length ∨ (l.getD 0 0 = 48 ∧ 1 < nD l))) :
  nextV l = (((val (l.take (nD l)) : Nat) : Int), (((l.getD (nD l) 0).toNat : Nat) : Int), S (l.drop (nD l + 1))) := by unfold nextV nextL; rw [if_neg h]
theorem nextL_no (l : List UInt8) (h : nD l < 1 ∨ 15 < nD l ∨ nD l = l.length ∨ (l.getD 0 0 = 48 ∧ 1 < nD l)) : nextV l = (0, 0, S []) := by unfold nextV nextL; rw [if_pos h]; rfl
theorem is48 (c : UInt8) : ((c.toNat : Int) = 48) ↔ c = 48 := by
 constructor
 ·
  intro h; exact UInt8.toNat_inj.mp (by have : c.toNat = 48 := by omega
                                        exact this)
 ·
  rintro rfl; rfl

theorem next_l0 (l : List UInt8) (hl : l.length ≤ 140737488351232) : ∀ m j k : Nat, nD l - j = m → j ≤ nD l → m < k → zbz.l0 k (S l) j = some (nextV l) := by
 have hn := nD_le l
 intro m
 induction m with
 | zero =>
  intro j k hm hj hk
  obtain rfl : j = nD l := by omega
  obtain ⟨k, rfl⟩ : ∃ m, k = m + 1 := ⟨k - 1, by omega⟩
  have hw : wrap64 ((nD l : Int) + 1) = ((nD l + 1 : Nat) : Int) := by rw [wrap_in (by omega) (by omega)]; omega
  have h0 : bt (S l) 0 = ((l.getD 0 0).toNat : Int) := S_bt l 0
  simp only [zbz.l0, S_bt, S_size, h0, hw, is48, empty_S, Int.toNat_natCast]
  by_cases ce : nD l = l.length
  ·
   have e0 : ((nD l : Int) < (l.length : Int)) = False := eq_false (by omega)
   rw [nextL_no l (Or.inr (Or.inr (Or.inl ce)))]
   have e3 : ((nD l : Int) = (l.length : Int)) = True := eq_true (by omega)
   simp only [e0, e3, if_false, if_true, ite_self]
  ·
   have hd := nD_out l (by omega)
   rw [← Bool.not_eq_true, isD_iff] at hd
   have e0 : ((nD l : Int) < (l.length : Int)) = True := eq_true (by omega)
   have e00 : (0 ≤ (nD l : Int)) = True := eq_true (by omega)
   have e3 : ((nD l : Int) = (l.length : Int)) = False := eq_false (by omega)
   have e4 : (0 < (l.length : Int)) = True := eq_true (by omega)
   have e5 : ((nD l : Int) ≤ (l.length : Int)) = True := eq_true (by omega)
   have e6 : (0 ≤ ((nD l + 1 : Nat) : Int)) = True := eq_true (by omega)
   have e7 : (((nD l + 1 : Nat) : Int) ≤ (l.length : Int)) = True := eq_true (by omega)
   have key : (if (nD l : Int) < 1 then some ((0 : Int), (0 : Int), S []) else if (nD l : Int) > 15 then some (0, 0, S []) else
     if l.getD 0 0 = 48 then if (nD l : Int) > 1 then some (0, 0, S []) else ((strconv_ParseUint.f ((S l).extract 0 (nD l)) 10 64).bind fun b => some (b.1, (((l.getD (nD l) 0).toNat : Nat) : Int), (S l).extract (nD l + 1) l.length))
     else ((strconv_ParseUint.f ((S l).extract 0 (nD l)) 10 64).bind fun b => some (b.1, (((l.getD (nD l) 0).toNat : Nat) : Int), (S l).extract (nD l + 1) l.length))) = some (nextV l) := by
    by_cases c1 : nD l < 1
    ·
     rw [if_pos (by omega), nextL_no l (Or.inl c1)]
    ·
     rw [if_neg (by omega)]
     by_cases c2 : 15 < nD l
     ·
      rw [if_pos (by omega), nextL_no l (Or.inr (Or.inl c2))]
     ·
      rw [if_neg (by omega), pu l (by omega) (by omega)]
      have e8 : (S l).extract (nD l + 1) l.length = S (l.drop (nD l + 1)) := by rw [← S_from, S_size]
      simp only [Option.bind_some, e8]
      by_cases c3 : l.getD 0 0 = 48
      ·
       rw [if_pos c3]
       by_cases c4 : 1 < nD l
       ·
        rw [if_pos (by omega), nextL_no l (Or.inr (Or.inr (Or.inr ⟨c3, c4⟩)))]
       ·
        rw [if_neg (by omega), nextL_ok l (by omega)]
      ·
       rw [if_neg c3, nextL_ok l (by rintro (h | h | h | h) <;> first | omega | exact c3 h.1)]
   simp only [e0, e00, e3, e4, e5, e6, e7, if_true, if_false]
   split
   ·
    split
    ·
     exact absurd ⟨by assumption, by assumption⟩ hd
    ·
     exact key
   ·
    exact key
 | succ m ih =>
  intro j k hm hj hk
  obtain ⟨k, rfl⟩ : ∃ m, k = m + 1 := ⟨k - 1, by omega⟩
  have hi := (isD_iff _).mp (nD_in l j (by omega))
  have hw : wrap64 ((j : Int) + 1) = ((j + 1 : Nat) : Int) := by rw [wrap_in (by omega) (by omega)]; omega
  simp only [zbz.l0, S_bt, S_size]
  rw [if_pos (by omega), if_pos (by omega), if_pos hi.1, if_pos hi.2, hw]
  exact ih (j + 1) k (by omega) (by omega) (by omega)
theorem next_f (l : List UInt8) (hl : l.length ≤ 140737488351232) : zbz.f (l.length + 1) (S l) = some (nextV l) := by
 have h := nD_le l
 exact next_l0 l hl (nD l) 0 (l.length + 1) (by omega) (by omega) (by omega)
theorem next_calls (l : List UInt8) (hl : l.length ≤ 140737488351232) (w : World) :
  Calls Tryz.prog 75 #[.string (S l)] w fun e w' => e = .returned (.tuple #[.int .u64 (nextL l).1, .int .u8 (nextL l).2.1, .string (S (nextL l).2.2)]) ∧ Below w.heap.size w w' :=
 zbz.calls (l.length + 1) (S l) _ _ _ w (next_f l hl)

theorem held_f (a b : Nat) (ha : a < 18446744073709551616) (hb : b < 18446744073709551616) : tick_Held.f a b = some ((heldN a b : Nat) : Int) := by
 unfold tick_Held.f tick_Sum.f heldN
 rw [if_pos ⟨by omega, by omega, by omega, by omega⟩]
 by_cases c : a + b < 18446744073709551616
 ·
  rw [if_pos (by omega), if_pos c, Option.bind_some, if_pos rfl, Int.natCast_add]
 ·
  rw [if_neg (by omega), if_neg c, Option.bind_some, if_neg (by decide)]
  exact congrArg some (by omega)
theorem times_f (n u : Nat) (hn : n < 18446744073709551616) (hu : u < 18446744073709551616) : tick_Times.f n u = some (if n * u < 18446744073709551616 then (((n * u : Nat) : Int), true) else (0, false)) := by
 unfold tick_Times.f bits_Mul64.f
 rw [if_pos ⟨by omega, by omega, by omega, by omega⟩, Option.bind_some, ← Int.natCast_mul]
 generalize n * u = z
 by_cases c : z < 18446744073709551616
 ·
  rw [if_pos (by omega), if_pos c]
  exact congrArg some (Prod.ext (by show (z : Int) % 18446744073709551616 = z; omega) rfl)
 ·
  rw [if_neg (by omega), if_neg c]
def big : Nat := 1125899906842624
theorem big_eq : (1125899906842624 : Int) = ((big : Nat) : Int) := by unfold big; omega
theorem big_one : heldN big 1 = 1125899906842625 := by unfold heldN big; rw [if_pos (by omega)]
theorem one_eq : (1 : Int) = ((1 : Nat) : Int) := by omega
theorem big_lt : big < 18446744073709551616 := by unfold big; omega
theorem more_f (t n u : Nat) (ht : t < 18446744073709551616) (hn : n < 18446744073709551616) (hu : u < 18446744073709551616) : zby.f t n u = some ((moreN t n u : Nat) : Int) := by
 unfold zby.f moreN
 rw [times_f n u hn hu, Option.bind_some]
 by_cases c : n * u < 18446744073709551616
 ·
  rw [if_pos c, if_pos c, if_pos rfl, held_f t _ ht c, Option.bind_some]
 ·
  rw [if_neg c, if_neg c, if_neg (by decide), big_eq, one_eq, held_f _ _ big_lt (by omega), Option.bind_some, big_one, held_f t _ ht (by omega), Option.bind_some]
theorem more_calls (t n u : Nat) (ht : t < 18446744073709551616) (hn : n < 18446744073709551616) (hu : u < 18446744073709551616) (w : World) :
  Calls Tryz.prog 76 #[.int .u64 t, .int .u64 n, .int .u64 u] w fun e w' => e = .returned (.int .u64 (moreN t n u : Nat)) ∧ Drawn0 w w' :=
 zby.calls t n u _ w (more_f t n u ht hn hu)
end Go.Proofs.YtcaegaljhogbjaaGreatDoor.Span
