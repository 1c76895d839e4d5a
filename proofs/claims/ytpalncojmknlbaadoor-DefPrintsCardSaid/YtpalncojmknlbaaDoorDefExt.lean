/- strings.Cut at a separator of one byte, strconv.Itoa of every whole number, in the form that the kit's printer gives its own contracts; the table of powers of ten. -/
import Derived.Test.YtpalncojmknlbaaDoorWordsExt
import Derived.Test.YtpalncojmknlbaaDoorWordsSplit
import Derived.Lib.ItoaMem
import Derived.Lib.ItoaLen
import Derived.Lib.PathFns
import Derived.Lib.IndexLaws
import Derived.Sort.Grow
namespace Go.Proofs.YtpalncojmknlbaaDoor.Ext
open Go.RowKit Go.Lib Go.Sort Go.Proofs.YtpalncojmknlbaaDoorW.PrintWords
set_option linter.unusedVariables false

/-- The table of powers of ten stands in memory. -/
def Tab (w : World) : Prop := Lib.TabIs Tryd.prog w "internal/strconv.uint64pow10" .u64 Lib.pow10Tab

theorem Tab.keep {w w' : World} (h : Tab w) (hk : ∀ k, k < w.heap.size → w'.heap[k]? = w.heap[k]?) : Tab w' := by
 unfold Tab Lib.TabIs World.var? at *
 cases hg : Tryd.prog.globalNamed "internal/strconv.uint64pow10" with
 | none => simp [hg] at h
 | some g =>
  simp only [hg, Option.bind_some] at h ⊢
  have hlt : g < w.heap.size := by
   rcases Nat.lt_or_ge g w.heap.size with h' | h'
   ·
    exact h'
   ·
    rw [Array.getElem?_eq_none h'] at h; simp at h
  rw [hk g hlt]
  exact h
theorem Tab.below {w w' : World} (h : Tab w) (b : Below w.heap.size w w') : Tab w' := h.keep b.block
theorem Tab.alloc {w : World} (h : Tab w) (o : Obj) : Tab (w.alloc o) := Lib.tabIs_alloc h o
theorem Tab.drew {w : World} (h : Tab w) : Tab w.drew := h
theorem Tab.drewN {w : World} (h : Tab w) (n : Nat) : Tab (w.drewN n) := h.below (Drawn0.below ⟨⟨n, rfl⟩⟩)
theorem Tab.setCell {w : World} (h : Tab w) {B : Nat} (hB : w.heap.size ≤ B) (o : Nat) (u : Value) : Tab (w.setCell ⟨B, o, none⟩ u) := h.below ((Below.refl _ _).setCell hB u)

theorem below_grow (w : World) (os : Array Obj) : Below w.heap.size w (grow w os) := ⟨rfl, rfl, rfl, by simp [size_grow], fun k hk => heap_grow_old w os hk⟩
set_option maxHeartbeats 6400000 in
set_option maxRecDepth 100000 in

theorem index_lt (l : List UInt8) (c : UInt8) (k : Nat) (h : Lib.indexByte l c = k) : k < l.length := by
 have := (Lib.indexByte_some h).1
 rcases Nat.lt_or_ge k l.length with h' | h'
 ·
  exact h'
 ·
  rw [List.getElem?_eq_none h'] at this; cases this
/-- Ahead of the first such byte, behind it, is there one. -/
def cutV (l : List UInt8) (c : UInt8) : List UInt8 × List UInt8 × Bool := if Lib.indexByte l c < 0 then (l, [], false) else (l.take (Lib.indexByte l c).toNat, l.drop ((Lib.indexByte l c).toNat + 1), true)
theorem cut_inner (s : ByteArray) (hs : s.size ≤ 140737488351232) (c : UInt8) (w : World) :
  Calls Tryd.prog 50 #[.string s, .string ⟨#[c]⟩] w fun e w' => e = .returned (.tuple #[.string ⟨(cutV s.data.toList c).1.toArray⟩, .string ⟨(cutV s.data.toList c).2.1.toArray⟩, .bool (cutV s.data.toList c).2.2]) ∧ Drawn0 w w' := by
 have hx := fun w => Tryd.stringslite_Index_one s c w
 have hge := Lib.indexByte_ge s.data.toList c
 have hmk : (⟨s.data.toList.toArray⟩ : ByteArray) = s := by cases s; simp
 have hsz : s.size = s.data.toList.length := Lib.size_eq s
 by_cases hn : Lib.indexByte s.data.toList c < 0
 ·
  have hi : Lib.indexByte s.data.toList c = -1 := by omega
  have hv : cutV s.data.toList c = (s.data.toList, [], false) := if_pos hn
  rw [hi] at hx
  rw [hv]
  dsimp only
  rw [hmk]
  clear hv hn hi hge hsz hmk
  go_enter Tryd.func50, Tryd.ntmps50
  go_wp2_with (go_at_call 62; refine (hx _).mono ?_; rintro e w' ⟨rfl, rfl⟩)
  go_ret3
  exact ⟨rfl, Drawn0.refl _⟩
 ·
  obtain ⟨k, hk⟩ := Int.eq_ofNat_of_zero_le (show 0 ≤ Lib.indexByte s.data.toList c by omega)
  have hlt := index_lt _ _ _ hk
  have hv : cutV s.data.toList c = (s.data.toList.take k, s.data.toList.drop (k + 1), true) := by
   unfold cutV; rw [if_neg hn, hk]; rfl
  rw [hk] at hx
  rw [hv]
  dsimp only
  rw [← Lib.Pa.extract_upto, ← Lib.Pa.extract_from]
  have h1 : k < s.size := by omega
  have h2 : (k : Int) < (s.size : Int) := by omega
  have h3 : (k : Int) ≤ (s.size : Int) := by omega
  have h4 : (k : Int) + 1 ≤ (s.size : Int) := by omega
  have h5 : k + 1 ≤ s.size := by omega
  clear hv hn hk hge hlt hmk hsz
  go_enter Tryd.func50, Tryd.ntmps50
  go_wp2_with (go_at_call 62; refine (hx _).mono ?_; rintro e w' ⟨rfl, rfl⟩)
  go_quiet (fail)
  go_wp2
  go_ret3
  exact ⟨rfl, by repeat (first | exact Drawn0.refl _ | apply Drawn0.step)⟩
def strings_Cut.f (a0 a1 : ByteArray) : Option (ByteArray × ByteArray × Bool) :=
 if a0.size ≤ 140737488351232 ∧ a1.size = 1 then
  some (⟨(cutV a0.data.toList (a1.data.toList.getD 0 0)).1.toArray⟩, ⟨(cutV a0.data.toList (a1.data.toList.getD 0 0)).2.1.toArray⟩, (cutV a0.data.toList (a1.data.toList.getD 0 0)).2.2) else none
theorem strings_Cut.calls (a0 a1 r1 r2 : ByteArray) (r3 : Bool) (w : World) (h : strings_Cut.f a0 a1 = some (r1, r2, r3)) :
  Calls Tryd.prog 38 #[.string a0, .string a1] w fun e w' => e = .returned (.tuple #[.string r1, .string r2, .bool r3]) ∧ Drawn0 w w' := by
 unfold strings_Cut.f at h
 split at h
 case isFalse => cases h
 rename_i hc
 obtain ⟨hs, h1⟩ := hc
 obtain ⟨c, rfl⟩ : ∃ c, a1 = ⟨#[c]⟩ := by
  obtain ⟨⟨l⟩⟩ := a1
  match l, h1 with
  | [c], _ => exact ⟨c, rfl⟩
 cases h
 have hi := cut_inner a0 hs c
 show Calls Tryd.prog 38 #[.string a0, .string ⟨#[c]⟩] w fun e w' => e = .returned (.tuple #[.string ⟨(cutV a0.data.toList c).1.toArray⟩, .string ⟨(cutV a0.data.toList c).2.1.toArray⟩, .bool (cutV a0.data.toList c).2.2]) ∧ Drawn0 w w'
 generalize cutV a0.data.toList c = v at *
 obtain ⟨v1, v2, v3⟩ := v
 dsimp only at *
 clear h1 hs
 go_enter Tryd.func38, Tryd.ntmps38
 go_wp2_with (go_at_call 50; refine (hi _).mono ?_; rintro e w' ⟨rfl, ⟨n, rfl⟩⟩)
 go_ret3
 exact ⟨rfl, by repeat (first | exact Drawn0.refl _ | apply Drawn0.step)⟩

theorem isEmpty_ne (l : List UInt8) : l.isEmpty = !(l != []) := by cases l <;> rfl
def strconv_Itoa.f (a0 : Int) : Option ByteArray := if -9223372036854775808 ≤ a0 ∧ a0 ≤ 9223372036854775807 then some ⟨(Lib.itoa a0).toArray⟩ else none
theorem strconv_Itoa.calls (a0 : Int) (r : ByteArray) (w : World) (hTab : Tab w) (h : strconv_Itoa.f a0 = some r) :
  Calls Tryd.prog 29 #[.int .i64 a0] w fun e w' => e = .returned (.string r) ∧ Below w.heap.size w w' := by
 unfold strconv_Itoa.f at h
 split at h
 case isFalse => cases h
 rename_i hc
 cases h
 refine (Tryd.strconv_Itoa a0 hc.1 hc.2 w hTab).mono ?_
 rintro e w' ⟨rfl, k, os, rfl⟩
 refine ⟨rfl, ?_⟩
 have hb := below_grow (w.drewN k) os
 have h2 := Drawn0.below (w := w) ⟨⟨k, rfl⟩⟩
 exact h2.trans (hb.mono h2.size)
end Go.Proofs.YtpalncojmknlbaaDoor.Ext
