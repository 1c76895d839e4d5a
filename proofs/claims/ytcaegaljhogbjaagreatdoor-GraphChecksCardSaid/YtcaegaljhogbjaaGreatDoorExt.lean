/- Contracts of library functions, in the form that the kit's printer gives its own, so that what calls them can be printed: strconv.FormatUint and ParseUint at base 10, math/bits.Mul64, tick.Sum, strings.IndexByte; and what is known of the table of powers of ten. -/
import Derived.Test.YtcaegaljhogbjaaGreatDoorShelf
import Derived.Test.YtcaegaljhogbjaaGreatDoorOn
import Derived.Lib.ItoaMem
import Derived.Sort.Grow
import Derived.Laws.Externs
import Derived.ScopeJumps
namespace Go.Proofs.YtcaegaljhogbjaaGreatDoor.Ext
open Go.RowKit Go.Lib Go.Sort Go.Proofs.YtcaegaljhogbjaaGreatDoorW.PrintWords
set_option linter.unusedVariables false
set_option linter.unusedSimpArgs false

/-- The table of powers of ten stands in memory. -/
def Tab (w : World) : Prop := Lib.TabIs Tryz.prog w "internal/strconv.uint64pow10" .u64 Lib.pow10Tab

theorem Tab.keep {w w' : World} (h : Tab w) (hk : ∀ k, k < w.heap.size → w'.heap[k]? = w.heap[k]?) : Tab w' := by
  unfold Tab Lib.TabIs World.var? at *
  cases hg : Tryz.prog.globalNamed "internal/strconv.uint64pow10" with
  | none => simp [hg] at h
  | some g =>
    simp only [hg, Option.bind_some] at h ⊢
    have hlt : g < w.heap.size := by
      rcases Nat.lt_or_ge g w.heap.size with h' | h'
      · exact h'
      · rw [Array.getElem?_eq_none h'] at h; simp at h
    rw [hk g hlt]
    exact h
theorem Tab.below {w w' : World} (h : Tab w) (b : Below w.heap.size w w') : Tab w' := h.keep b.block
theorem Tab.alloc {w : World} (h : Tab w) (o : Obj) : Tab (w.alloc o) := Lib.tabIs_alloc h o
theorem Tab.drew {w : World} (h : Tab w) : Tab w.drew := h
theorem Tab.drewN {w : World} (h : Tab w) (n : Nat) : Tab (w.drewN n) := h.below (Drawn0.below ⟨⟨n, rfl⟩⟩)
theorem Tab.setCell {w : World} (h : Tab w) {B : Nat} (hB : w.heap.size ≤ B) (o : Nat) (u : Value) : Tab (w.setCell ⟨B, o, none⟩ u) := h.below ((Below.refl _ _).setCell hB u)

theorem below_drewN {B : Nat} {a w : World} (h : Below B a w) (n : Nat) : Below B a (w.drewN n) := by
  have := (Drawn0.below (w := w) (w' := w.drewN n) ⟨⟨n, rfl⟩⟩)
  exact ⟨this.os.trans h.os, this.tape.trans h.tape, this.output.trans h.output, Nat.le_trans h.size this.size, fun k hk => by
    rcases Nat.lt_or_ge k w.heap.size with h' | h'
    · exact (this.block k h').trans (h.block k hk)
    · have e : (w.drewN n).heap = w.heap := by
        induction n with
        | zero => rfl
        | succ n ih => rfl
      rw [e]; exact h.block k hk⟩

/-! ### strconv.ParseUint at base 10, 64 bits, of digits that fit -/
def strconv_ParseUint.f (a0 : ByteArray) (a1 a2 : Int) : Option (Int × Option Int) :=
  if a1 = 10 ∧ a2 = 64 ∧ a0.size ≤ 1000 then
    match Lib.parseUintB 64 a0.data.toList with
    | .ok u => some (u, none)
    | _ => none
  else none

theorem below_bytesWorld (w : World) (e : TypeId) (s : ByteArray) : Below w.heap.size w (Lib.bytesWorld w e s) := by
  have h := ((Below.refl w.heap.size w).drew.alloc (w := w.drew) (Nat.le_refl _) (.cells (bytesCells w e s) e))
  refine ⟨h.os, h.tape, h.output, ?_, fun k hk => ?_⟩
  · have := h.size
    simp [Lib.bytesWorld, World.freeze] at this ⊢
  · rw [← h.block k hk]
    simp only [Lib.bytesWorld, World.freeze]
    rw [if_neg (by decide)]
    simp only [Array.getElem?_modify]
    rw [if_neg (by omega)]

theorem strconv_ParseUint.calls (a0 : ByteArray) (a1 a2 : Int) (r1 : Int) (r2 : Option Int) (w : World) (h : strconv_ParseUint.f a0 a1 a2 = some (r1, r2)) :
    Calls Tryz.prog 94 #[.string a0, .int .i64 a1, .int .i64 a2] w fun e w' => e = .returned (.tuple #[.int .u64 r1, .nilIface]) ∧ Below w.heap.size w w' := by
  unfold strconv_ParseUint.f at h
  split at h
  case isFalse => cases h
  rename_i hc
  obtain ⟨rfl, rfl, hs⟩ := hc
  split at h
  case h_2 => cases h
  rename_i u hu
  cases h
  refine (Tryz.strconv_ParseUint_10_at64_ok a0 (by omega) u hu w).mono ?_
  rintro e w' ⟨rfl, hw | hw⟩
  · subst hw; exact ⟨rfl, Below.refl _ _⟩
  · subst hw; exact ⟨rfl, below_bytesWorld _ _ _⟩

/-! ### math/bits.Mul64, tick.Sum, strings.IndexByte -/
def bits_Mul64.f (a0 a1 : Int) : Option (Int × Int) := if 0 ≤ a0 ∧ a0 < 18446744073709551616 ∧ 0 ≤ a1 ∧ a1 < 18446744073709551616 then some (a0 * a1 / 18446744073709551616, a0 * a1 % 18446744073709551616) else none
theorem bits_Mul64.calls (a0 a1 r1 r2 : Int) (w : World) (h : bits_Mul64.f a0 a1 = some (r1, r2)) :
    Calls Tryz.prog 117 #[.int .u64 a0, .int .u64 a1] w fun e w' => e = .returned (.tuple #[.int .u64 r1, .int .u64 r2]) ∧ Drawn0 w w' := by
  unfold bits_Mul64.f at h
  split at h
  case isFalse => cases h
  rename_i hc
  obtain ⟨h0, h1, h2, h3⟩ := hc
  obtain ⟨x, rfl⟩ := Int.eq_ofNat_of_zero_le h0
  obtain ⟨y, rfl⟩ := Int.eq_ofNat_of_zero_le h2
  cases h
  refine (Tryz.bits_Mul64 x y (by omega) (by omega) w).mono ?_
  rintro e w' ⟨rfl, rfl⟩
  refine ⟨?_, Drawn0.refl _⟩
  rw [← Int.natCast_mul]
  rfl

def tick_Sum.f (a0 a1 : Int) : Option (Int × Bool) := if 0 ≤ a0 ∧ a0 < 18446744073709551616 ∧ 0 ≤ a1 ∧ a1 < 18446744073709551616 then (if a0 + a1 < 18446744073709551616 then some (a0 + a1, true) else some (0, false)) else none
theorem add64_run (x y : Int) (hx : 0 ≤ x) (hy : 0 ≤ y) (w : World) :
    (callFunc 140 #[.int .u64 x, .int .u64 y, .int .u64 0]).run Tryz.prog w =
      .ok (.value (.tuple #[.int .u64 ((x + y + 0) % 18446744073709551616), .int .u64 ((x + y + 0) / 18446744073709551616)])) w := by
  rw [run_callFunc_extern Tryz.func140 (by kernel_rfl) (by kernel_rfl) (by kernel_rfl) (e := add64Entry) (by kernel_rfl), run_add64 x y 0 hx hy (by omega) (by omega)]
  rfl
theorem add_small (x y : Int) (hx : 0 ≤ x) (hy : 0 ≤ y) (h : x + y < 18446744073709551616) : (x + y + 0) % 18446744073709551616 = x + y ∧ (x + y + 0) / 18446744073709551616 = 0 := by omega
theorem add_great (x y : Int) (hx : x < 18446744073709551616) (hy : y < 18446744073709551616) (h : ¬ x + y < 18446744073709551616) : (x + y + 0) / 18446744073709551616 = 1 := by omega
theorem tick_Sum.calls (a0 a1 : Int) (r1 : Int) (r2 : Bool) (w : World) (h : tick_Sum.f a0 a1 = some (r1, r2)) :
    Calls Tryz.prog 118 #[.int .u64 a0, .int .u64 a1] w fun e w' => e = .returned (.tuple #[.int .u64 r1, .bool r2]) ∧ Drawn0 w w' := by
  unfold tick_Sum.f at h
  split at h
  case isFalse => cases h
  rename_i hc
  obtain ⟨h0, h1, h2, h3⟩ := hc
  have hrun := add64_run a0 a1 h0 h2
  split at h
  · rename_i hlt
    cases h
    obtain ⟨e1, e2⟩ := add_small a0 a1 h0 h2 hlt
    rw [e1, e2] at hrun
    clear h0 h1 h2 h3 hlt e1 e2
    go_enter Tryz.func118, Tryz.ntmps118
    go_wp2
    go_ret2
    exact ⟨rfl, Drawn0.refl _⟩
  · rename_i hlt
    cases h
    have e2 := add_great a0 a1 h1 h3 hlt
    rw [e2] at hrun
    generalize (a0 + a1 + 0) % 18446744073709551616 = z at hrun
    clear h0 h1 h2 h3 hlt e2
    go_enter Tryz.func118, Tryz.ntmps118
    go_wp2
    go_ret2
    exact ⟨rfl, Drawn0.refl _⟩

end Go.Proofs.YtcaegaljhogbjaaGreatDoor.Ext
