/- Strings as lists of bytes: length, bytes, cuts, one behind the other. No program in sight. -/
import Derived.Test.YtpalncojmknlbaaDoorWMore
import Derived.Test.YtpalncojmknlbaaDoorWWords
import Derived.Test.YtpalncojmknlbaaDoorSpanSpec
import Derived.Lib.PathFns
namespace Go.Proofs.YtpalncojmknlbaaDoor.Span
open Go.RowKit Go.Proofs.YtpalncojmknlbaaDoorW.PrintWords
set_option linter.unusedVariables false

def S (l : List UInt8) : ByteArray := ⟨l.toArray⟩
theorem S_size (l : List UInt8) : (S l).size = l.length := by simp [S, ByteArray.size]
theorem S_list (l : List UInt8) : (S l).data.toList = l := by simp [S]
theorem S_of (s : ByteArray) : S s.data.toList = s := by cases s; simp [S]
theorem S_inj {l l' : List UInt8} (h : S l = S l') : l = l' := by rw [← S_list l, h, S_list]
theorem S_append (a b : List UInt8) : S a ++ S b = S (a ++ b) := by
  apply ByteArray.ext
  simp [S, ByteArray.data_append]
theorem S_bt (l : List UInt8) (j : Nat) : bt (S l) (j : Int) = ((l.getD j 0).toNat : Int) := by
  unfold bt
  rw [Int.toNat_natCast]
  split
  · rename_i h
    have h' : j < l.length := by rwa [S_size] at h
    simp [S, ByteArray.getElem_eq_getElem_data, List.getD, h']
  · rename_i h
    have h' : l.length ≤ j := by rw [S_size] at h; omega
    simp [List.getD, h']
theorem S_from (l : List UInt8) (j : Nat) : (S l).extract j (S l).size = S (l.drop j) := by rw [Go.Lib.Pa.extract_from, S_list]; rfl
theorem S_upto (l : List UInt8) (j : Nat) : (S l).extract 0 j = S (l.take j) := by rw [Go.Lib.Pa.extract_upto, S_list]; rfl
theorem S_mid (l : List UInt8) (i j : Nat) : (S l).extract i j = S ((l.take j).drop i) := by
  apply ByteArray.ext
  simp [S, ByteArray.data_extract, List.extract_eq_take_drop, List.drop_take]
theorem isD_iff (c : UInt8) : isD c = true ↔ 48 ≤ (c.toNat : Int) ∧ (c.toNat : Int) ≤ 57 := by
  unfold isD; rw [Bool.and_eq_true, decide_eq_true_eq, decide_eq_true_eq]; omega
theorem empty_S : (⟨#[]⟩ : ByteArray) = S [] := rfl
theorem is48 (c : UInt8) : ((c.toNat : Int) = 48) ↔ c = 48 := by
  constructor
  · intro h; exact UInt8.toNat_inj.mp (by have : c.toNat = 48 := by omega
                                          exact this)
  · rintro rfl; rfl
end Go.Proofs.YtpalncojmknlbaaDoor.Span
