/- The closure 'line' of def.write: a word and more, blanks between, a line end behind, go into the builder. -/
import Derived.Test.YtpalncojmknlbaaDoorDefKinds
import Derived.Shelf.Strings.BuilderK
import Derived.Lib.OthersKept
import Derived.Lib.Join
import Derived.Lib.SmallJoins
import Derived.Laws.AppendOwn
import Derived.WalkKit
namespace Go.Proofs.YtpalncojmknlbaaDoor.Ext
open Go.RowKit Go.Lib Go.Sort Go.Maps Go.Proofs.YtpalncojmknlbaaDoorW.PrintWords Go.Proofs.YtpalncojmknlbaaDoor.Span
set_option linter.unusedVariables false
set_option linter.unusedSimpArgs false

theorem builder_keep {T e : TypeId} {B b : Nat} {bs : List Value} {w w' : World} (h : Lib.IsBuilderF T e B b bs w) (hb : Below w.heap.size w w') : Lib.IsBuilderF T e B b bs w' := by
 have hg : w.grownBy w' none := ⟨hb.os, hb.tape, hb.output, hb.size, fun i hi _ => hb.block i hi⟩
 have one : ∀ p, Lib.BuilderAtF T e B b p bs w → Lib.BuilderAtF T e B b p bs w' := by
  rintro p ⟨h1, v, h2, h3, h4⟩
  refine ⟨h1, v, blk_below h2 hb, h3.kept hg ?_, h4⟩
  cases v.ownBlock with
  | none => exact Or.inl rfl
  | some k => exact Or.inr (by simp)
 exact h.imp (one _) (one _)
theorem others_below {e : TypeId} {b : Option Nat} {w w' : World} (hb : Below w.heap.size w w') : Lib.OthersKept e b w w' := fun k o h _ _ => blk_below h hb
theorem row_str {w : World} {base n : Nat} {v : Value} {us : List Value} (h : w.ownsRow base 9 1 v n us) (hn : 0 < n) :
  ∃ (pb cp : Nat) (nc : Array Value), v = .slice (some ⟨pb, 0, none⟩) n cp ∧ base ≤ pb ∧ n ≤ cp ∧ cp ≤ maxLen ∧ w.heap[pb]? = some (.cells nc 9 (0, 0)) ∧ ∀ (j : Nat) q, us[j]? = some q → nc[j]? = some q := by
 obtain ⟨h0, h1⟩ := h
 rcases h1 with ⟨_, h0⟩ | ⟨g, cap, nc, rfl, h2, hb, h1, h3, _, h4⟩
 ·
  omega
 ·
  refine ⟨g, cap, nc, rfl, h2, h1, h3, hb, fun j q hj => ?_⟩
  have hlt : j < n := by have := (List.getElem?_eq_some_iff.1 hj).1; omega
  rw [← h4, List.getElem?_take, if_pos (by omega)] at hj
  rw [← Array.getElem?_toList]; exact hj
theorem write_string (B b : Nat) (bs : List Value) (s : ByteArray) (w : World) (h : Lib.IsBuilderF 56 5 B b bs w) (hlen : bs.length + s.size ≤ 140737488355328) (hBw : B ≤ w.heap.size) :
  Calls Tryd.prog 26 #[.pointer (some ⟨b, 0, none⟩), .string s] w fun e w' => e = .returned (.tuple #[.int .i64 s.size, .nilIface]) ∧ (Lib.BuilderAtF 56 5 B b (.pointer (some ⟨b, 0, none⟩)) (bs ++ Lib.strCells s) w' ∧ Below B w w' ∧ Lib.OthersKept 5 (some b) w w') :=
 Any.Builder_WriteString_k { Tryd.lays156 with } Tryd.Builder_Extra_156 B b bs s w h hlen hBw
/-- A line: words, blanks between, a line end. -/
def lineL (ws : List (List UInt8)) : List UInt8 := Lib.join ws [32] ++ [10]
theorem bytes_line (l : List UInt8) (J : ByteArray) : Lib.byteCells l ++ Lib.strCells (J ++ ⟨#[10]⟩) = Lib.byteCells (l ++ (J.data.toList ++ [10])) := by
 unfold Lib.byteCells Lib.strCells
 rw [List.map_append, ByteArray.data_append]
 simp
set_option maxHeartbeats 4000000 in
set_option maxRecDepth 100000 in
theorem line_calls (word : ByteArray) (xs : List ByteArray) (g c : Nat) (cur : Array Value) (B bb : Nat) (l : List UInt8) (w : World)
  (hb : Lib.IsBuilderF 56 5 B bb (Lib.byteCells l) w) (hB : B ≤ w.heap.size)
  (hg : w.heap[g]? = some (.cells cur 9 (0, 0))) (hcur : ∀ (j : Nat) y, xs[j]? = some y → cur[j]? = some (.string y)) (hne : 0 < xs.length) (hc : xs.length ≤ c) (hn : xs.length ≤ 1000)
  (hz : (Lib.join ((word :: xs).map (·.data.toList)) [32]).length ≤ 100000000) (hl : l.length ≤ 100000000000) :
  Calls Tryd.prog 25 #[.string word, .slice (some ⟨g, 0, none⟩) xs.length c, .pointer (some ⟨bb, 0, none⟩)] w fun e w' => e = .returned (.tuple #[]) ∧
   Lib.IsBuilderF 56 5 B bb (Lib.byteCells (l ++ lineL ((word :: xs).map (·.data.toList)))) w' ∧ Below B w w' ∧ Lib.OthersKept 5 (some bb) w w' := by
 obtain ⟨i9, hi9, hq9⟩ := Option.map_eq_some_iff.1 info9
 simp only [Prod.mk.injEq] at hq9
 obtain ⟨hz9, hs9, hb9⟩ := hq9
 have hown : (w.alloc (.cells #[.string word] 9)).ownsRow w.heap.size 9 1 (.slice (some ⟨w.heap.size, 0, none⟩) 1 1) 1 [.string word] :=
  ⟨rfl, .inr ⟨w.heap.size, 1, #[.string word], rfl, Nat.le_refl _, blk_new w _, Nat.le_refl _, by decide, rfl, rfl⟩⟩
 have hnews : ∀ (j : Nat) u, (xs.map Value.string)[j]? = some u → (w.alloc (.cells #[.string word] 9)).cell? ((⟨g, 0, none⟩ : Addr).add j) = some u := by
  intro j u hj
  rw [List.getElem?_map] at hj
  obtain ⟨y, hy, rfl⟩ := Option.map_eq_some_iff.1 hj
  have hcell := (blk_cell (blk_alloc hg (.cells #[.string word] 9)) j).trans (hcur j y hy)
  unfold Addr.add
  split
  ·
   rename_i h0; subst h0; exact hcell
  ·
   simpa using hcell
 have hone : ∀ u ∈ xs.map Value.string, u.oneCell' = true := by
  intro u hu
  obtain ⟨y, _, rfl⟩ := List.mem_map.1 hu
  rfl
 have hN : 1 + xs.length = (word :: xs).length := by rw [List.length_cons]; omega
 have HJ := Aside0.mk hz
 clear hz
 go_enter Tryd.func25, Tryd.ntmps25
 go_wp2_with (at_builtin; refine wpList_append_own _ rfl (.tmp 6) (.tmp 7) 34 rfl w.heap.size 9 i9 (.string ⟨#[]⟩) 1 16 Tryd.underlying34 hi9 hz9 hs9 hb9 rfl (by decide) _ 1 [.string word] rfl hown ⟨g, 0, none⟩ xs.length c (xs.map Value.string) rfl (by simp) hnews hone (by unfold maxLen; omega) (by omega) (by simp) ?_; intro v' w1 hown1 hg1 hnil; rw [hN] at hown1; obtain ⟨g1, c1, nc, rfl, hb1, hn1, hm1, hk1, hr1⟩ := row_str hown1 (by simp))
 have HB1 : Below w.heap.size w w1 := below_grownBy ((Below.refl _ _).alloc (Nat.le_refl _) _) hg1 (Nat.le_refl _)
 have hcells : ∀ (j : Nat) x, (word :: xs)[j]? = some x → w1.cell? ⟨g1, 0 + j, none⟩ = some (.string x) := by
  intro j x hj
  rw [Nat.zero_add]
  refine (blk_cell hk1 j).trans (hr1 j _ ?_)
  have e : [Value.string word] ++ xs.map Value.string = (word :: xs).map Value.string := rfl
  rw [e, List.getElem?_map, hj]; rfl
 have hbk1 : g1 < w1.heap.size := blk_lt hk1
 have hj := Tryd.strings_Join g1 0 c1 (word :: xs) ⟨#[32]⟩ w1 hcells hbk1 (by rw [← hN]; omega) hn1 (Nat.le_trans HJ.out (by decide))
 have hq : (⟨#[32]⟩ : ByteArray).data.toList = [32] := rfl
 rw [hq] at hj
 obtain ⟨J, hJ⟩ : ∃ J : List UInt8, Lib.join ((word :: xs).map (·.data.toList)) [32] = J := ⟨_, rfl⟩
 have HJ2 : J.length ≤ 100000000 := by rw [← hJ]; exact HJ.out
 rw [hJ] at hj
 clear hcells hnews hown hone hr1 hg1
 refine hj.mono ?_
 rintro e w2 ⟨rfl, hb2⟩
 have HB2 : Below w.heap.size w w2 := HB1.trans (Joins.below_le hb2 HB1.size)
 have hsz : (⟨J.toArray⟩ : ByteArray).size = J.length := by simp [ByteArray.size]
 have hadd : (9223372036854775807 < (⟨J.toArray⟩ : ByteArray).size + 1) = False := eq_false (by rw [hsz]; omega)
 have hadd2 : (9223372036854775807 < J.length + 1) = False := eq_false (by omega)
 have hw := write_string B bb (Lib.byteCells l) (⟨J.toArray⟩ ++ ⟨#[10]⟩) w2 (builder_keep hb HB2) (by rw [Lib.byteCells_length, ByteArray.size_append, hsz]; show l.length + (J.length + 1) ≤ _; omega) (Nat.le_trans hB HB2.size)
 go_wp2_with fail
 refine hw.mono ?_
 rintro e w3 ⟨rfl, hbb, hb3, ho3⟩
 go_wp2_with fail
 go_end0
 refine ⟨rfl, Or.inr ?_, (Joins.below_le HB2 hB).trans hb3, (others_below HB2).trans ho3⟩
 have e := bytes_line l ⟨J.toArray⟩
 rw [e] at hbb
 unfold lineL
 rw [hJ]
 exact hbb
end Go.Proofs.YtpalncojmknlbaaDoor.Ext
