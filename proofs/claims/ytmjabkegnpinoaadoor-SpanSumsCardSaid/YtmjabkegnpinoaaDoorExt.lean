/- Contracts of library functions, in the form that the kit's printer gives its own, so that what calls them can be printed: strconv.FormatUint and ParseUint at base 10, math/bits.Mul64, tick.Sum, strings.IndexByte; and what is known of the table of powers of ten. -/
import Derived.Test.YtmjabkegnpinoaaDoorShelf
import Derived.Test.YtmjabkegnpinoaaDoorWMore
import Derived.Test.YtmjabkegnpinoaaDoorWWords
import Derived.Lib.ItoaMem
import Derived.Sort.Grow
import Derived.Laws.Externs
import Derived.ScopeJumps
namespace Go.Proofs.YtmjabkegnpinoaaDoor.Ext
open Go.RowKit Go.Lib Go.Sort Go.Proofs.YtmjabkegnpinoaaDoorW.PrintWords
set_option linter.unusedVariables false
set_option linter.unusedSimpArgs false

/-- The table of powers of ten stands in memory. -/
def Tab (w : World) : Prop := Lib.TabIs Tryd.prog w "internal/strconv.uint64pow10" .u64 Lib.pow10Tab

theorem Tab.keep {w w' : World} (h : Tab w) (hk : ∀ k, k < w.heap.size → w'.heap[k]? = w.heap[k]?) : Tab w' := by
  unfold Tab Lib.TabIs World.var? at *
  cases hg : Tryd.prog.globalNamed "internal/strconv.uint64pow10" with
  | none => simp [hg] at h
  | some g =>
    simp only [hg, Option.bind_some] at h ⊢
    have hlt : g < w.heap.size := by
      rcases Nat.lt_or_ge g w.heap.size with h' | h'
      · exact h'
      · rw [Array.getElem?_eq_none h'] at h; simp at h
    rw [hk g hlt]
    exact h
theorem Tab.below {w w' : World} (h : Tab w) (b : Below w.heap.size w w') : Tab w' := h.keep b.block
theorem Tab.alloc {w : World} (h : Tab w) (o : Obj) : Tab (w.alloc o) := Lib.tabIs_alloc h o
theorem Tab.drew {w : World} (h : Tab w) : Tab w.drew := h
theorem Tab.drewN {w : World} (h : Tab w) (n : Nat) : Tab (w.drewN n) := h.below (Drawn0.below ⟨⟨n, rfl⟩⟩)
theorem Tab.setCell {w : World} (h : Tab w) {B : Nat} (hB : w.heap.size ≤ B) (o : Nat) (u : Value) : Tab (w.setCell ⟨B, o, none⟩ u) := h.below ((Below.refl _ _).setCell hB u)

theorem below_grow (w : World) (os : Array Obj) : Below w.heap.size w (grow w os) := ⟨rfl, rfl, rfl, by simp [size_grow], fun k hk => heap_grow_old w os hk⟩
theorem below_drewN {B : Nat} {a w : World} (h : Below B a w) (n : Nat) : Below B a (w.drewN n) := by
  have := (Drawn0.below (w := w) (w' := w.drewN n) ⟨⟨n, rfl⟩⟩)
  exact ⟨this.os.trans h.os, this.tape.trans h.tape, this.output.trans h.output, Nat.le_trans h.size this.size, fun k hk => by
    rcases Nat.lt_or_ge k w.heap.size with h' | h'
    · exact (this.block k h').trans (h.block k hk)
    · have e : (w.drewN n).heap = w.heap := by
        induction n with
        | zero => rfl
        | succ n ih => rfl
      rw [e]; exact h.block k hk⟩

/-! ### strconv.FormatUint at base 10 -/
def strconv_FormatUint.f (a0 a1 : Int) : Option ByteArray := if 0 ≤ a0 ∧ a0 < 18446744073709551616 ∧ a1 = 10 then some ⟨(Lib.decDigits a0.toNat).toArray⟩ else none

theorem holds_zero0 (w : World) (T : TypeId) (nd : Nat) (hs : nd ≤ 24) : Holds (fun (b : UInt8) => Value.int .u8 (b.toNat : Int)) (w.alloc (.cells zeros24 T)) w.heap.size 0 (Array.replicate nd (0 : UInt8)) := fun j hj => by
  have hj' : j < nd := by simpa using hj
  refine ⟨?_, World.frozen?_alloc_new _ _ _ _⟩
  rw [World.cell?_alloc_new, zeros24_at _ (by omega), getElem!_pos _ j hj]
  simp

theorem below_put (w : World) (o : Obj) (dk : Array UInt8) (k : Nat) : Below w.heap.size w ((putRow (fun (b : UInt8) => Value.int .u8 (b.toNat : Int)) (w.alloc o) w.heap.size 0 dk).drewN k) := by
  rw [alloc_eq_grow]
  obtain ⟨os', _, e⟩ := putRow_grow_new (fun (b : UInt8) => Value.int .u8 (b.toNat : Int)) w #[o] w.heap.size 0 dk (Nat.le_refl _)
  rw [e]
  exact below_drewN (below_grow w os') k

set_option maxHeartbeats 6400000 in
set_option maxRecDepth 100000 in
theorem fmt_calls (u : Nat) (hu64 : u < 18446744073709551616) (w : World) (hTab : Tab w) :
    Calls Tryd.prog 31 #[.int .u64 u, .int .i64 10] w fun e w' => e = .returned (.string ⟨(Lib.decDigits u).toArray⟩) ∧ Below w.heap.size w w' := by
  by_cases hs : u < 100
  · have hw : IntKind.i64.wrap (u : Int) = (u : Int) := by rw [IntKind.wrap_i64]; omega
    go_enter Tryd.func31, Tryd.ntmps31
    go_wp2_with (go_at_call 37; refine (Tryd.internal_strconv_small u hs _).mono ?_; rintro e w' ⟨rfl, rfl⟩)
    go_ret
    exact ⟨rfl, Below.refl _ _⟩
  · have hu1 : 1 ≤ u := by omega
    have hnd20 : Lib.nDigits u ≤ 20 := by have := Lib.numDigits_eq u hu1 hu64; split at this <;> omega
    have hb3 : Lib.nDigits u ≤ 24 := by omega
    have hal : Tryd.prog.arrayLen 65 = 24 := by kernel_rfl
    have hsl1 : ∀ W, (Instr.sliceAt 65 (.pointer (some ⟨w.heap.size, 0, none⟩)) none (some (.int .i64 (Lib.nDigits u : Int))) none).run Tryd.prog W = .ok (.slice (some ⟨w.heap.size, 0, none⟩) (Lib.nDigits u) 24) W := fun W => by
      rw [run_sliceAt_array_h W 65 ⟨w.heap.size, 0, none⟩ (by kernel_rfl) .i64 (Lib.nDigits u : Int) (by omega) (by rw [hal]; omega)]
      go_simp
      try omega
    have hH0 := holds_zero0 w 65 (Lib.nDigits u) (by omega)
    have hfmt := Tryd.internal_strconv_formatBase10 w.heap.size 0 24 u (Array.replicate (Lib.nDigits u) 0) (w.alloc (.cells Lib.zeros24 65)) hH0 (by rw [Array.size_replicate]; exact Lib.lt_pow_nDigits u) hu64 (by rw [Array.size_replicate]; omega)
    rw [Array.size_replicate] at hfmt
    have HH0 := Lib.hid hH0
    clear hH0 hal
    go_enter Tryd.func31, Tryd.ntmps31
    go_wp2_with (go_at_call 38; refine (Tryd.internal_strconv_numDigits u hu1 hu64 _ (Lib.tabIs_alloc hTab _)).mono ?_; rintro e w' ⟨rfl, rfl⟩)
    go_at_call 39
    refine hfmt.mono ?_
    rintro e w' ⟨rfl, k, v', dk, rfl, hF⟩
    have hcv : (convert 53 9 (.slice (some ⟨w.heap.size, 0, none⟩) (Lib.nDigits u) 24)).run Tryd.prog ((putRow (fun (b : UInt8) => Value.int .u8 (b.toNat : Int)) (w.alloc (.cells Lib.zeros24 65)) w.heap.size 0 dk).drewN k) = .ok (.string ⟨(Lib.decDigits u).toArray⟩) ((putRow (fun (b : UInt8) => Value.int .u8 (b.toNat : Int)) (w.alloc (.cells Lib.zeros24 65)) w.heap.size 0 dk).drewN k) := by
      have h := run_convert_bytes_back (P := Tryd.prog) ((putRow (fun (b : UInt8) => Value.int .u8 (b.toNat : Int)) (w.alloc (.cells Lib.zeros24 65)) w.heap.size 0 dk).drewN k) 53 9 5 ⟨w.heap.size, 0, none⟩ 24 (Lib.decDigits u) Tryd.underlying53 Tryd.underlying5 Tryd.underlying9 (fun j hj => by
        rw [Lib.row_is_numeral hF j hj, Lib.add_plain, World.cell?_drewN]
        exact cell?_putRow (fun (b : UInt8) => Value.int .u8 (b.toNat : Int)) _ w.heap.size 0 _ dk HH0.out (by rw [hF.size, Array.size_replicate]) j (by rw [hF.size]; rw [Lib.decDigits_length] at hj; exact hj))
      rw [Lib.decDigits_length] at h
      exact h
    go_wp2
    go_ret
    exact ⟨rfl, below_put w _ dk k⟩

theorem strconv_FormatUint.calls (a0 a1 : Int) (r : ByteArray) (w : World) (hTab : Tab w) (h : strconv_FormatUint.f a0 a1 = some r) :
    Calls Tryd.prog 22 #[.int .u64 a0, .int .i64 a1] w fun e w' => e = .returned (.string r) ∧ Below w.heap.size w w' := by
  unfold strconv_FormatUint.f at h
  split at h
  case isFalse => cases h
  rename_i hc
  obtain ⟨h0, h1, rfl⟩ := hc
  obtain rfl := Option.some.inj h
  clear h
  obtain ⟨u, rfl⟩ := Int.eq_ofNat_of_zero_le h0
  have hf := fmt_calls u (by omega) w hTab
  clear h1 h0
  go_enter Tryd.func22, Tryd.ntmps22
  go_wp2_with (go_at_call 31; refine hf.mono ?_; rintro e w' ⟨rfl, hb⟩)
  go_ret
  exact ⟨rfl, hb⟩

/-! ### strconv.ParseUint at base 10, 64 bits, of digits that fit -/
def strconv_ParseUint.f (a0 : ByteArray) (a1 a2 : Int) : Option (Int × Option Int) :=
  if a1 = 10 ∧ a2 = 64 ∧ a0.size ≤ 1000 then
    match Lib.parseUintB 64 a0.data.toList with
    | .ok u => some (u, none)
    | _ => none
  else none

theorem below_bytesWorld (w : World) (e : TypeId) (s : ByteArray) : Below w.heap.size w (Lib.bytesWorld w e s) := by
  have h := ((Below.refl w.heap.size w).drew.alloc (w := w.drew) (Nat.le_refl _) (.cells (bytesCells w e s) e))
  refine ⟨h.os, h.tape, h.output, ?_, fun k hk => ?_⟩
  · have := h.size
    simp [Lib.bytesWorld, World.freeze] at this ⊢
  · rw [← h.block k hk]
    simp only [Lib.bytesWorld, World.freeze]
    rw [if_neg (by decide)]
    simp only [Array.getElem?_modify]
    rw [if_neg (by omega)]

theorem strconv_ParseUint.calls (a0 : ByteArray) (a1 a2 : Int) (r1 : Int) (r2 : Option Int) (w : World) (h : strconv_ParseUint.f a0 a1 a2 = some (r1, r2)) :
    Calls Tryd.prog 27 #[.string a0, .int .i64 a1, .int .i64 a2] w fun e w' => e = .returned (.tuple #[.int .u64 r1, .nilIface]) ∧ Below w.heap.size w w' := by
  unfold strconv_ParseUint.f at h
  split at h
  case isFalse => cases h
  rename_i hc
  obtain ⟨rfl, rfl, hs⟩ := hc
  split at h
  case h_2 => cases h
  rename_i u hu
  cases h
  refine (Tryd.strconv_ParseUint_10_at64_ok a0 (by omega) u hu w).mono ?_
  rintro e w' ⟨rfl, hw | hw⟩
  · subst hw; exact ⟨rfl, Below.refl _ _⟩
  · subst hw; exact ⟨rfl, below_bytesWorld _ _ _⟩

/-! ### math/bits.Mul64, tick.Sum, strings.IndexByte -/
def bits_Mul64.f (a0 a1 : Int) : Option (Int × Int) := if 0 ≤ a0 ∧ a0 < 18446744073709551616 ∧ 0 ≤ a1 ∧ a1 < 18446744073709551616 then some (a0 * a1 / 18446744073709551616, a0 * a1 % 18446744073709551616) else none
theorem bits_Mul64.calls (a0 a1 r1 r2 : Int) (w : World) (h : bits_Mul64.f a0 a1 = some (r1, r2)) :
    Calls Tryd.prog 34 #[.int .u64 a0, .int .u64 a1] w fun e w' => e = .returned (.tuple #[.int .u64 r1, .int .u64 r2]) ∧ Drawn0 w w' := by
  unfold bits_Mul64.f at h
  split at h
  case isFalse => cases h
  rename_i hc
  obtain ⟨h0, h1, h2, h3⟩ := hc
  obtain ⟨x, rfl⟩ := Int.eq_ofNat_of_zero_le h0
  obtain ⟨y, rfl⟩ := Int.eq_ofNat_of_zero_le h2
  cases h
  refine (Tryd.bits_Mul64 x y (by omega) (by omega) w).mono ?_
  rintro e w' ⟨rfl, rfl⟩
  refine ⟨?_, Drawn0.refl _⟩
  rw [← Int.natCast_mul]
  rfl

def tick_Sum.f (a0 a1 : Int) : Option (Int × Bool) := if 0 ≤ a0 ∧ a0 < 18446744073709551616 ∧ 0 ≤ a1 ∧ a1 < 18446744073709551616 then (if a0 + a1 < 18446744073709551616 then some (a0 + a1, true) else some (0, false)) else none
theorem add64_run (x y : Int) (hx : 0 ≤ x) (hy : 0 ≤ y) (w : World) :
    (callFunc 47 #[.int .u64 x, .int .u64 y, .int .u64 0]).run Tryd.prog w =
      .ok (.value (.tuple #[.int .u64 ((x + y + 0) % 18446744073709551616), .int .u64 ((x + y + 0) / 18446744073709551616)])) w := by
  rw [run_callFunc_extern Tryd.func47 (by kernel_rfl) (by kernel_rfl) (by kernel_rfl) (e := add64Entry) (by kernel_rfl), run_add64 x y 0 hx hy (by omega) (by omega)]
  rfl
theorem add_small (x y : Int) (hx : 0 ≤ x) (hy : 0 ≤ y) (h : x + y < 18446744073709551616) : (x + y + 0) % 18446744073709551616 = x + y ∧ (x + y + 0) / 18446744073709551616 = 0 := by omega
theorem add_great (x y : Int) (hx : x < 18446744073709551616) (hy : y < 18446744073709551616) (h : ¬ x + y < 18446744073709551616) : (x + y + 0) / 18446744073709551616 = 1 := by omega
theorem tick_Sum.calls (a0 a1 : Int) (r1 : Int) (r2 : Bool) (w : World) (h : tick_Sum.f a0 a1 = some (r1, r2)) :
    Calls Tryd.prog 35 #[.int .u64 a0, .int .u64 a1] w fun e w' => e = .returned (.tuple #[.int .u64 r1, .bool r2]) ∧ Drawn0 w w' := by
  unfold tick_Sum.f at h
  split at h
  case isFalse => cases h
  rename_i hc
  obtain ⟨h0, h1, h2, h3⟩ := hc
  have hrun := add64_run a0 a1 h0 h2
  split at h
  · rename_i hlt
    cases h
    obtain ⟨e1, e2⟩ := add_small a0 a1 h0 h2 hlt
    rw [e1, e2] at hrun
    clear h0 h1 h2 h3 hlt e1 e2
    go_enter Tryd.func35, Tryd.ntmps35
    go_wp2
    go_ret2
    exact ⟨rfl, Drawn0.refl _⟩
  · rename_i hlt
    cases h
    have e2 := add_great a0 a1 h1 h3 hlt
    rw [e2] at hrun
    generalize (a0 + a1 + 0) % 18446744073709551616 = z at hrun
    clear h0 h1 h2 h3 hlt e2
    go_enter Tryd.func35, Tryd.ntmps35
    go_wp2
    go_ret2
    exact ⟨rfl, Drawn0.refl _⟩

def strings_IndexByte.f (a0 : ByteArray) (a1 : Int) : Option Int := some (Lib.indexByte a0.data.toList a1.toNat.toUInt8)
theorem strings_IndexByte.calls (a0 : ByteArray) (a1 r : Int) (w : World) (h : strings_IndexByte.f a0 a1 = some r) :
    Calls Tryd.prog 19 #[.string a0, .int .u8 a1] w fun e w' => e = .returned (.int .i64 r) ∧ Drawn0 w w' := by
  cases h
  refine (Tryd.strings_IndexByte a0 a1 w).mono ?_
  rintro e w' ⟨rfl, rfl⟩
  exact ⟨rfl, Drawn0.refl _⟩
end Go.Proofs.YtmjabkegnpinoaaDoor.Ext
