/- strings.Cut at a separator of one byte, strconv.Atoi at up to eighteen digits, strconv.Itoa of what is not below 0, in the form that the kit's printer gives its own contracts. -/
import Derived.Test.YtcaegaljhogbjaaGreatDoorExt
import Derived.Test.YtcaegaljhogbjaaGreatDoorSpanSpec
import Derived.Lib.PathFns
import Derived.Lib.IndexLaws
import Derived.Lib.Atoi
namespace Go.Proofs.YtcaegaljhogbjaaGreatDoor.Ext
open Go.RowKit Go.Lib Go.Sort Go.Proofs.YtcaegaljhogbjaaGreatDoorW.PrintWords
set_option linter.unusedVariables false

theorem index_lt (l : List UInt8) (c : UInt8) (k : Nat) (h : Lib.indexByte l c = k) : k < l.length := by
  have := (Lib.indexByte_some h).1
  rcases Nat.lt_or_ge k l.length with h' | h'
  · exact h'
  · rw [List.getElem?_eq_none h'] at this; cases this
/-- Ahead of the first such byte, behind it, is there one. -/
def cutV (l : List UInt8) (c : UInt8) : List UInt8 × List UInt8 × Bool := if Lib.indexByte l c < 0 then (l, [], false) else (l.take (Lib.indexByte l c).toNat, l.drop ((Lib.indexByte l c).toNat + 1), true)
theorem cut_inner (s : ByteArray) (hs : s.size ≤ 140737488351232) (c : UInt8) (w : World) :
    Calls Tryz.prog 98 #[.string s, .string ⟨#[c]⟩] w fun e w' => e = .returned (.tuple #[.string ⟨(cutV s.data.toList c).1.toArray⟩, .string ⟨(cutV s.data.toList c).2.1.toArray⟩, .bool (cutV s.data.toList c).2.2]) ∧ Drawn0 w w' := by
  have hx := fun w => Tryz.stringslite_Index_one s c w
  have hge := Lib.indexByte_ge s.data.toList c
  have hmk : (⟨s.data.toList.toArray⟩ : ByteArray) = s := by cases s; simp
  have hsz : s.size = s.data.toList.length := Lib.size_eq s
  by_cases hn : Lib.indexByte s.data.toList c < 0
  · have hi : Lib.indexByte s.data.toList c = -1 := by omega
    have hv : cutV s.data.toList c = (s.data.toList, [], false) := if_pos hn
    rw [hi] at hx
    rw [hv]
    dsimp only
    rw [hmk]
    clear hv hn hi hge hsz hmk
    go_enter Tryz.func98, Tryz.ntmps98
    go_wp2_with (go_at_call 120; refine (hx _).mono ?_; rintro e w' ⟨rfl, rfl⟩)
    go_ret3
    exact ⟨rfl, Drawn0.refl _⟩
  · obtain ⟨k, hk⟩ := Int.eq_ofNat_of_zero_le (show 0 ≤ Lib.indexByte s.data.toList c by omega)
    have hlt := index_lt _ _ _ hk
    have hv : cutV s.data.toList c = (s.data.toList.take k, s.data.toList.drop (k + 1), true) := by
      unfold cutV; rw [if_neg hn, hk]; rfl
    rw [hk] at hx
    rw [hv]
    dsimp only
    rw [← Lib.Pa.extract_upto, ← Lib.Pa.extract_from]
    have h1 : k < s.size := by omega
    have h2 : (k : Int) < (s.size : Int) := by omega
    have h3 : (k : Int) ≤ (s.size : Int) := by omega
    have h4 : (k : Int) + 1 ≤ (s.size : Int) := by omega
    have h5 : k + 1 ≤ s.size := by omega
    clear hv hn hk hge hlt hmk hsz
    go_enter Tryz.func98, Tryz.ntmps98
    go_wp2_with (go_at_call 120; refine (hx _).mono ?_; rintro e w' ⟨rfl, rfl⟩)
    go_quiet (fail)
    go_wp2
    go_ret3
    exact ⟨rfl, by repeat (first | exact Drawn0.refl _ | apply Drawn0.step)⟩
def strings_Cut.f (a0 a1 : ByteArray) : Option (ByteArray × ByteArray × Bool) :=
  if a0.size ≤ 140737488351232 ∧ a1.size = 1 then
    some (⟨(cutV a0.data.toList (a1.data.toList.getD 0 0)).1.toArray⟩, ⟨(cutV a0.data.toList (a1.data.toList.getD 0 0)).2.1.toArray⟩, (cutV a0.data.toList (a1.data.toList.getD 0 0)).2.2) else none
theorem strings_Cut.calls (a0 a1 r1 r2 : ByteArray) (r3 : Bool) (w : World) (h : strings_Cut.f a0 a1 = some (r1, r2, r3)) :
    Calls Tryz.prog 78 #[.string a0, .string a1] w fun e w' => e = .returned (.tuple #[.string r1, .string r2, .bool r3]) ∧ Drawn0 w w' := by
  unfold strings_Cut.f at h
  split at h
  case isFalse => cases h
  rename_i hc
  obtain ⟨hs, h1⟩ := hc
  obtain ⟨c, rfl⟩ : ∃ c, a1 = ⟨#[c]⟩ := by
    obtain ⟨⟨l⟩⟩ := a1
    match l, h1 with
    | [c], _ => exact ⟨c, rfl⟩
  cases h
  have hi := cut_inner a0 hs c
  show Calls Tryz.prog 78 #[.string a0, .string ⟨#[c]⟩] w fun e w' => e = .returned (.tuple #[.string ⟨(cutV a0.data.toList c).1.toArray⟩, .string ⟨(cutV a0.data.toList c).2.1.toArray⟩, .bool (cutV a0.data.toList c).2.2]) ∧ Drawn0 w w'
  generalize cutV a0.data.toList c = v at *
  obtain ⟨v1, v2, v3⟩ := v
  dsimp only at *
  clear h1 hs
  go_enter Tryz.func78, Tryz.ntmps78
  go_wp2_with (go_at_call 98; refine (hi _).mono ?_; rintro e w' ⟨rfl, ⟨n, rfl⟩⟩)
  go_ret3
  exact ⟨rfl, by repeat (first | exact Drawn0.refl _ | apply Drawn0.step)⟩

/-! ### strconv.Atoi of digits, Itoa -/
theorem dec_from (l : List UInt8) : ∀ a, (∀ c ∈ l, Span.isD c = true) → Lib.decFrom a l = some (Span.valA l a) := by
  induction l with
  | nil => intro a _; rfl
  | cons c l ih =>
    intro a h
    have hc := h c (by simp)
    simp only [Span.isD, Bool.and_eq_true, decide_eq_true_eq] at hc
    rw [Lib.decFrom, Lib.digitVal, if_pos hc, Span.valA_cons]
    exact ih _ (fun d hd => h d (by simp [hd]))
theorem atoi_digits (l : List UInt8) (h : ∀ c ∈ l, Span.isD c = true) (h0 : l ≠ []) : Lib.atoi l = some ((Span.val l : Nat) : Int) := by
  cases l with
  | nil => exact absurd rfl h0
  | cons c l =>
    have hc := h c (by simp)
    simp only [Span.isD, Bool.and_eq_true, decide_eq_true_eq] at hc
    have n45 : (c == 45) = false := by
      rw [beq_eq_false_iff_ne]; rintro rfl; have : (45 : UInt8).toNat = 45 := rfl
      omega
    have n43 : (c == 43) = false := by
      rw [beq_eq_false_iff_ne]; rintro rfl; have : (43 : UInt8).toNat = 43 := rfl
      omega
    rw [Lib.atoi, n45, n43, if_neg (by decide), if_neg (by decide), Lib.decNat, if_neg (by simp), dec_from _ _ h]
    rfl
/-- strconv.Atoi of one to eighteen digits. -/
def strconv_Atoi.f (a0 : ByteArray) : Option (Int × Option Int) :=
  if a0.size ≤ 18 ∧ a0.data.toList ≠ [] ∧ (a0.data.toList.all Span.isD) = true then some (((Span.val a0.data.toList : Nat) : Int), none) else none
theorem strconv_Atoi.calls (a0 : ByteArray) (r1 : Int) (r2 : Option Int) (w : World) (h : strconv_Atoi.f a0 = some (r1, r2)) :
    Calls Tryz.prog 79 #[.string a0] w fun e w' => e = .returned (.tuple #[.int .i64 r1, .nilIface]) ∧ Below w.heap.size w w' := by
  unfold strconv_Atoi.f at h
  split at h
  case isFalse => cases h
  rename_i hc
  obtain ⟨h1, h2, h3⟩ := hc
  cases h
  refine (Tryz.strconv_Atoi a0 _ h1 (atoi_digits _ (fun c hcm => List.all_eq_true.mp h3 c hcm) h2) w).mono ?_
  rintro e w' ⟨rfl, t, rfl⟩
  exact ⟨rfl, below_bytesWorld _ _ _⟩
end Go.Proofs.YtcaegaljhogbjaaGreatDoor.Ext
