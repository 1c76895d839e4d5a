/- Contracts of library functions for the layer of words, in the form that the kit's printer gives its own: strings.HasSuffix, strings.Split at one byte, strconv.Atoi of digits. -/
import Derived.Test.YtpalncojmknlbaaDoorShelf
import Derived.Test.YtpalncojmknlbaaDoorBytes
import Derived.Test.YtpalncojmknlbaaDoorWRepsOne
import Derived.Lib.IndexBytes
import Derived.Lib.SplitLaws
import Derived.Lib.Atoi
import Derived.Sort.Grow
namespace Go.Proofs.YtpalncojmknlbaaDoor.Ext
open Go.RowKit Go.Lib Go.Sort Go.Proofs.YtpalncojmknlbaaDoorW.PrintWords Go.Proofs.YtpalncojmknlbaaDoor.Span
set_option linter.unusedVariables false

/-- A row of strings just laid. -/
theorem R_fresh (w : World) (xs : List ByteArray) (hm : xs.length ≤ 9223372036854775807) :
  Kd.R Kd.string 9 (w.alloc (.cells (xs.map Value.string).toArray 9)) w.heap.size (fun _ => True) (.slice (some ⟨w.heap.size, 0, none⟩) xs.length xs.length) xs := by
 refine ⟨fun _ _ => trivial, xs.map Value.string, ?_, ?_⟩
 ·
  have h2 := World.ownsRow_lit (base := w.heap.size) (e := 9) (size := Kd.string.sz) w (xs.map Value.string).toArray xs.length (Nat.le_refl _) (by simpa [maxLen] using hm) (by simp [Kd.string, Kd.scalar])
  simpa using h2
 ·
  show Reps _ 1 xs (xs.map Value.string)
  clear hm
  generalize (fun k => (fun _ : Nat => True) k ∧ some k ≠ (Value.slice (some ⟨w.heap.size, 0, none⟩) xs.length xs.length).ownBlock) = ok
  generalize w.alloc (.cells (xs.map Value.string).toArray 9) = w1
  induction xs with
  | nil => exact Reps.none _ _
  | cons x xs ih => exact Reps.one rfl ih

def strings_HasSuffix.f (a0 a1 : ByteArray) : Option Bool := if a0.size ≤ 9223372036854775807 then some (Lib.hasSuffix a0.data.toList a1.data.toList) else none
theorem strings_HasSuffix.calls (a0 a1 : ByteArray) (r : Bool) (w : World) (h : strings_HasSuffix.f a0 a1 = some r) :
  Calls Tryd.prog 22 #[.string a0, .string a1] w fun e w' => e = .returned (.bool r) ∧ Drawn0 w w' := by
 unfold strings_HasSuffix.f at h
 split at h
 case isFalse => cases h
 rename_i hc
 cases h
 refine (Tryd.strings_HasSuffix a0 a1 w hc).mono ?_
 rintro e w' ⟨rfl, rfl⟩
 exact ⟨rfl, Drawn0.refl _⟩

def strings_Split.f (a0 a1 : ByteArray) : Option (List ByteArray) :=
 if a0.size < 4294967281 ∧ a1.size = 1 then some (Lib.splitB a1 0 (Lib.countB a0 a1) a0) else none
theorem split_inner (s : ByteArray) (c : UInt8) (hs : s.size < 4294967281) (w : World) :
  Calls Tryd.prog 43 #[.string s, .string ⟨#[c]⟩, .int .i64 0, .int .i64 (-1)] w fun e w' =>
   e = .returned (.slice (some ⟨w.heap.size, 0, none⟩) (Lib.splitB ⟨#[c]⟩ 0 (Lib.countB s ⟨#[c]⟩) s).length (Lib.splitB ⟨#[c]⟩ 0 (Lib.countB s ⟨#[c]⟩) s).length) ∧ w' = w.alloc (.cells ((Lib.splitB ⟨#[c]⟩ 0 (Lib.countB s ⟨#[c]⟩) s).map Value.string).toArray 9) := by
 have h1 : 1 ≤ (⟨#[c]⟩ : ByteArray).size := Nat.le_refl 1
 have hle := Lib.countB_le ⟨#[c]⟩ h1 s.size s (Nat.le_refl _)
 have hlen := Lib.splitB_all ⟨#[c]⟩ h1 0 _ s rfl
 have hc := Any.strings_genSplit_core Tryd.lays221 (by kernel_rfl) s ⟨#[c]⟩ 0 (-1) (Lib.countB s ⟨#[c]⟩ + 1) w hs h1 (Nat.zero_le _)
  (fun x cs hx => (Tryd.strings_Index_one x c _).mono fun e w' ⟨he, hw⟩ => ⟨by rw [he]; show _ = Ending.returned (Value.int .i64 (Lib.index x.data.toList [c])); rw [Lib.index_one], hw⟩)
  ((Tryd.strings_Count_one s c w).mono fun e w' ⟨he, hw⟩ => ⟨by rw [he]; show _ = Ending.returned (Value.int .i64 ((Lib.count s.data.toList [c] : Nat) : Int)); rw [Lib.count_one]; rfl, hw⟩) (by decide) (by decide) (by rw [if_pos (by decide)]; omega)
 rw [Nat.add_sub_cancel, hlen] at hc
 have e2 : Lib.cellsOf (Lib.splitB ⟨#[c]⟩ 0 (Lib.countB s ⟨#[c]⟩) s) (Lib.countB s ⟨#[c]⟩ + 1) = ((Lib.splitB ⟨#[c]⟩ 0 (Lib.countB s ⟨#[c]⟩) s).map Value.string).toArray := by rw [← hlen]; exact Lib.cellsOf_full _
 rw [e2] at hc
 rw [hlen]
 exact hc
theorem strings_Split.calls (a0 a1 : ByteArray) (r : List ByteArray) (w : World) (h : strings_Split.f a0 a1 = some r) :
  Calls Tryd.prog 24 #[.string a0, .string a1] w fun e w' => ∃ v0_ : Value, e = .returned (v0_) ∧ Kd.R Kd.string 9 w' w.heap.size (fun _ => True) v0_ r ∧ Below w.heap.size w w' := by
 unfold strings_Split.f at h
 split at h
 case isFalse => cases h
 rename_i hc
 obtain ⟨hs, h1⟩ := hc
 obtain ⟨c, rfl⟩ := Lib.one_byte a1 h1
 have hi := split_inner a0 c hs
 have hle := Lib.countB_le ⟨#[c]⟩ (Nat.le_refl 1) a0.size a0 (Nat.le_refl _)
 have hlen := Lib.splitB_all ⟨#[c]⟩ (Nat.le_refl 1) 0 _ a0 rfl
 have hr := Option.some.inj h
 rw [hr] at hi hlen
 have hm : r.length ≤ 9223372036854775807 := by rw [hlen]; omega
 clear h hr hle hlen h1 hs
 go_enter Tryd.func24, Tryd.ntmps24
 go_wp2_with (go_at_call 43; refine (hi _).mono ?_; rintro e w' ⟨rfl, rfl⟩)
 go_ret
 exact ⟨_, rfl, R_fresh _ _ hm, below_alloc (Below.refl _ _) _⟩
/-! ### strconv.Atoi of digits -/
theorem dec_from (l : List UInt8) : ∀ a, (∀ c ∈ l, Span.isD c = true) → Lib.decFrom a l = some (Span.valA l a) := by
 induction l with
 | nil => intro a _; rfl
 | cons c l ih =>
  intro a h
  have hc := h c (by simp)
  simp only [Span.isD, Bool.and_eq_true, decide_eq_true_eq] at hc
  rw [Lib.decFrom, Lib.digitVal, if_pos hc, Span.valA_cons]
  exact ih _ (fun d hd => h d (by simp [hd]))
theorem atoi_digits (l : List UInt8) (h : ∀ c ∈ l, Span.isD c = true) (h0 : l ≠ []) : Lib.atoi l = some ((Span.val l : Nat) : Int) := by
 cases l with
 | nil => exact absurd rfl h0
 | cons c l =>
  have hc := h c (by simp)
  simp only [Span.isD, Bool.and_eq_true, decide_eq_true_eq] at hc
  have n45 : (c == 45) = false := by
   rw [beq_eq_false_iff_ne]; rintro rfl; have : (45 : UInt8).toNat = 45 := rfl
   omega
  have n43 : (c == 43) = false := by
   rw [beq_eq_false_iff_ne]; rintro rfl; have : (43 : UInt8).toNat = 43 := rfl
   omega
  rw [Lib.atoi, n45, n43, if_neg (by decide), if_neg (by decide), Lib.decNat, if_neg (by simp), dec_from _ _ h]
  rfl
theorem below_bytesWorld (w : World) (e : TypeId) (s : ByteArray) : Below w.heap.size w (Lib.bytesWorld w e s) := by
 have h := ((Below.refl w.heap.size w).drew.alloc (w := w.drew) (Nat.le_refl _) (.cells (bytesCells w e s) e))
 refine ⟨h.os, h.tape, h.output, ?_, fun k hk => ?_⟩
 ·
  have := h.size
  simp [Lib.bytesWorld, World.freeze] at this ⊢
 ·
  rw [← h.block k hk]
  simp only [Lib.bytesWorld, World.freeze]
  rw [if_neg (by decide)]
  simp only [Array.getElem?_modify]
  rw [if_neg (by omega)]
/-- strconv.Atoi of one to eighteen digits. -/
def strconv_Atoi.f (a0 : ByteArray) : Option (Int × Option Int) :=
 if a0.size ≤ 18 ∧ a0.data.toList ≠ [] ∧ (a0.data.toList.all Span.isD) = true then some (((Span.val a0.data.toList : Nat) : Int), none) else none
theorem strconv_Atoi.calls (a0 : ByteArray) (r1 : Int) (r2 : Option Int) (w : World) (h : strconv_Atoi.f a0 = some (r1, r2)) :
  Calls Tryd.prog 63 #[.string a0] w fun e w' => e = .returned (.tuple #[.int .i64 r1, .nilIface]) ∧ Below w.heap.size w w' := by
 unfold strconv_Atoi.f at h
 split at h
 case isFalse => cases h
 rename_i hc
 obtain ⟨h1, h2, h3⟩ := hc
 cases h
 refine (Tryd.strconv_Atoi a0 _ h1 (atoi_digits _ (fun c hcm => List.all_eq_true.mp h3 c hcm) h2) w).mono ?_
 rintro e w' ⟨rfl, t, rfl⟩
 exact ⟨rfl, below_bytesWorld _ _ _⟩
end Go.Proofs.YtpalncojmknlbaaDoor.Ext
