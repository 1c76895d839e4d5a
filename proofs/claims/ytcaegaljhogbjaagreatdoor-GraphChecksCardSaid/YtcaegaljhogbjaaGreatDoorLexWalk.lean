/- lex.Lex, walked by hand (it jumps back to a label): what it cuts a text into, or why it does not. -/
import Derived.Test.YtcaegaljhogbjaaGreatDoorGx0
import Derived.Test.YtcaegaljhogbjaaGreatDoorSpanSpec
import Derived.Lib.PathFns
import Derived.Test.YtcaegaljhogbjaaGreatDoorSpanNext
import Derived.Test.YtcaegaljhogbjaaGreatDoorGoto
import Derived.Shelf.Strings.SlTrimAscii
import Derived.Lib.Atoi
import Derived.Deep.WholeRow
import Derived.Laws.Tables
import Derived.Great.BuildSlice
import Derived.Lib.SmallJoins
import Derived.LoopTactic
import Derived.WalkMore
import Derived.Outline
import Derived.WalkKit
namespace Go.Proofs.YtcaegaljhogbjaaGreatDoor.Lx
open Go.Proofs.YtcaegaljhogbjaaGreatDoor.G Go.Proofs.YtcaegaljhogbjaaGreatDoor.Span

/-- How signs are written, by kind. -/
def TX : List (List UInt8) := [[], [], [], [43], [45], [42], [60], [60, 61], [62], [62, 61], [61, 61], [33, 61], [38], [124], [33], [40], [41], [91], [93]]
def lonGo (l : List UInt8) : List (List UInt8) → Nat → Nat × Nat → Nat × Nat
  | [], _, st => st
  | t :: ts, k, st => lonGo l ts (k + 1) (if st.2 < t.length ∧ Lib.hasPrefix l t = true then (k, t.length) else st)
/-- The longest sign that a text begins with: its kind, its length. -/
def longestL (l : List UInt8) : Nat × Nat := lonGo l TX 0 (0, 0)
def trimB (l : List UInt8) : List UInt8 := l.dropWhile (fun c => c == 32)
def isA (c : UInt8) : Bool := 97 ≤ c.toNat && c.toNat ≤ 122
/-- A number at the head. -/
def numStep (go : List UInt8 → List S118 → Option (List S118 × Int)) (l : List UInt8) (xs : List S118) : Option (List S118 × Int) :=
  if l.getD 0 0 = 48 ∧ 1 < nD l then some ([], 2)
  else if 10 < nD l ∨ 2147483647 < val (l.take (nD l)) then some ([], 3)
  else go (l.drop (nD l)) (xs ++ [⟨1, (val (l.take (nD l)) : Nat)⟩])
/-- A sign at the head that is neither a number nor a name. -/
def signStep (go : List UInt8 → List S118 → Option (List S118 × Int)) (l : List UInt8) (xs : List S118) : Option (List S118 × Int) :=
  if (longestL l).2 = 0 then some ([], 2) else go (l.drop (longestL l).2) (xs ++ [⟨((longestL l).1 : Nat), 0⟩])
def lexL : Nat → List UInt8 → List S118 → Option (List S118 × Int)
  | 0, _, _ => none
  | k + 1, l, xs =>
    match trimB l with
    | [] => some (xs, 0)
    | c :: r =>
      if isD c = true then numStep (lexL k) (c :: r) xs
      else if isA c = true then lexL k r (xs ++ [⟨2, ((c.toNat - 97 : Nat) : Int)⟩])
      else signStep (lexL k) (c :: r) xs
end Go.Proofs.YtcaegaljhogbjaaGreatDoor.Lx

set_option maxHeartbeats 4000000
set_option maxRecDepth 100000
set_option linter.unusedVariables false
set_option linter.unusedSimpArgs false
namespace Go.Proofs.YtcaegaljhogbjaaGreatDoor.Lx
open Go.RowKit Go.Lib Go.Sort Go.Proofs.YtcaegaljhogbjaaGreatDoorW.PrintWords Go.Proofs.YtcaegaljhogbjaaGreatDoorW.PrintLast Go.Proofs.YtcaegaljhogbjaaGreatDoorW.PrintMore Go.Proofs.YtcaegaljhogbjaaGreatDoor.G Go.Proofs.YtcaegaljhogbjaaGreatDoor.Span Go.Proofs.YtcaegaljhogbjaaGreatDoor.Goto

def TXV : Array Value := #[.string ⟨#[]⟩, .string ⟨#[]⟩, .string ⟨#[]⟩, .string ⟨#[43]⟩, .string ⟨#[45]⟩, .string ⟨#[42]⟩, .string ⟨#[60]⟩, .string ⟨#[60, 61]⟩, .string ⟨#[62]⟩, .string ⟨#[62, 61]⟩, .string ⟨#[61, 61]⟩, .string ⟨#[33, 61]⟩, .string ⟨#[38]⟩, .string ⟨#[124]⟩, .string ⟨#[33]⟩, .string ⟨#[40]⟩, .string ⟨#[41]⟩, .string ⟨#[91]⟩, .string ⟨#[93]⟩]
theorem in_calls (n a b : Int) (w : World) : Calls Tryz.prog 81 #[.int .i64 n, .int .i64 a, .int .i64 b] w fun e w' => e = .returned (.bool (decide (a ≤ n) && decide (n ≤ b))) ∧ w' = w := by
 cases h1 : decide (a ≤ n) with
 | false =>
  go_enter Tryz.func81, Tryz.ntmps81
  go_wp2
  go_ret
  exact ⟨rfl, rfl⟩
 | true =>
  go_enter Tryz.func81, Tryz.ntmps81
  go_wp2
  go_ret
  exact ⟨rfl, rfl⟩
theorem texts_calls (w : World) : Calls Tryz.prog 105 #[] w fun e w' => e = .returned (.agg TXV) ∧ Below w.heap.size w w' := by
 have hv := run_loadVar_new (P := Tryz.prog) w 141 TXV 19 9 Tryz.underlying141 (by kernel_rfl)
 have hv2 := Aside0.mk hv
 clear hv
 go_enter Tryz.func105, Tryz.ntmps105
 go_wp2_with (first | (refine wpList_buildTo rfl 141 _ rfl (some 1) rfl TXV (by kernel_rfl) ?_) | (refine wpList_store_rowTo rfl 141 (.tmp 0) (.tmp 1) rfl rfl w.heap.size _ rfl rfl 141 _ (blk_new w _) ?hi ?ho ?h1 ?_; (case hi => kernel_rfl); (case ho => kernel_rfl); (case h1 => kernel_rfl); rw [World.setRow_alloc_new]))
 refine bodyPost_ret (v := .agg TXV) ?_ rfl ⟨rfl, (Below.refl _ _).alloc (Nat.le_refl _) _⟩
 have e : (results Tryz.f105 #[.pointer (some ⟨w.heap.size, 0, none⟩), .agg TXV]).run Tryz.prog (w.alloc (.cells TXV 141)) = .ok (.agg TXV) (w.alloc (.cells TXV 141)) := by
  have hl := hv2.out
  generalize TXV = tv at hl ⊢
  simp [results, Tryz.results105]
  exact hl
 exact e
theorem TX_at : ∀ k, k < 19 → TXV[k]? = some (.string (S (TX.getD k []))) := by
 intro k hk
 have : k = 0 ∨ k = 1 ∨ k = 2 ∨ k = 3 ∨ k = 4 ∨ k = 5 ∨ k = 6 ∨ k = 7 ∨ k = 8 ∨ k = 9 ∨ k = 10 ∨ k = 11 ∨ k = 12 ∨ k = 13 ∨ k = 14 ∨ k = 15 ∨ k = 16 ∨ k = 17 ∨ k = 18 := by omega
 rcases this with e | e | e | e | e | e | e | e | e | e | e | e | e | e | e | e | e | e | e <;> (subst e; rfl)
theorem TX_short : ∀ k, (TX.getD k []).length ≤ 2 := by
 intro k
 rcases Nat.lt_or_ge k 19 with hk | hk
 ·
  have : k = 0 ∨ k = 1 ∨ k = 2 ∨ k = 3 ∨ k = 4 ∨ k = 5 ∨ k = 6 ∨ k = 7 ∨ k = 8 ∨ k = 9 ∨ k = 10 ∨ k = 11 ∨ k = 12 ∨ k = 13 ∨ k = 14 ∨ k = 15 ∨ k = 16 ∨ k = 17 ∨ k = 18 := by omega
  rcases this with e | e | e | e | e | e | e | e | e | e | e | e | e | e | e | e | e | e | e <;> (subst e; decide)
 ·
  rw [List.getD_eq_getElem?_getD, List.getElem?_eq_none (by exact hk)]; decide
theorem TX_drop : ∀ k, k < 19 → TX.drop k = TX.getD k [] :: TX.drop (k + 1) := by
 intro k hk
 rw [List.drop_eq_getElem_cons (by exact hk)]
 congr 1
 rw [List.getD_eq_getElem?_getD, List.getElem?_eq_getElem (by exact hk)]; rfl
theorem index_at (tv : Array Value) (i : Nat) (hi : i < 19) (s : ByteArray) (h : tv[i]? = some (.string s)) (w : World) : (Instr.index 141 (.agg tv) (.int .i64 (i : Int))).run Tryz.prog w = .ok (.string s) w := by
 have q0 : 0 ≤ (i : Int) := by omega
 have q1 : (i : Int) < 19 := by omega
 simp [Instr.index, run_underlying Tryz.underlying141, asIntOf, q0, q1, hi, part, go_sem, h]
theorem longest_calls (l : List UInt8) (w : World) : Calls Tryz.prog 82 #[.string (S l)] w fun e w' => e = .returned (.tuple #[.int .i64 ((longestL l).1 : Nat), .int .i64 ((longestL l).2 : Nat)]) ∧ Below w.heap.size w w' := by
 obtain ⟨tv, htv⟩ : ∃ tv, TXV = tv := ⟨_, rfl⟩
 have HTV := Aside0.mk htv
 have hT := texts_calls w
 rw [htv] at hT
 have HT := Aside0.mk hT
 clear hT htv
 go_enter Tryz.func82, Tryz.ntmps82
 go_wp2_with (go_at_call 105; (with_reducible refine HT.out.mono ?_); rintro e w2 ⟨rfl, hb⟩; have HB := Aside0.mk hb; clear hb)
 go_loopg [2, 3, 4, 5, 7] (19) (fun kq v2 v3 v4 v5 v7 wr => ∃ (i a b : Nat), v7 = .int .i64 (i : Int) ∧ v2 = .int .i64 (a : Int) ∧ v3 = .int .i64 (b : Int) ∧ Aside0 (kq + i = 19) ∧ Aside0 (lonGo l (TX.drop i) i (a, b) = longestL l) ∧ Aside0 (b ≤ 2) ∧ wr = w2)
 case atStart => exact ⟨0, 0, 0, rfl, rfl, rfl, ⟨rfl⟩, ⟨rfl⟩, ⟨by omega⟩, rfl⟩
 case round =>
  obtain ⟨i, a, b, rfl, rfl, rfl, HF, HL, HS, rfl⟩ := hrel
  by_cases hi : i < 19
  ·
   have hlt : decide ((i : Int) < 19) = true := decide_eq_true (by omega)
   have htv := TX_at i hi
   rw [HTV.out] at htv
   have hsl := TX_short i
   have hdr := TX_drop i hi
   generalize TX.getD i [] = t at htv hsl hdr
   have hp := fun w => Tryz.strings_HasPrefix (S l) (S t) w
   rw [S_list, S_list] at hp
   have HP := Aside0.mk hp
   have HD := Aside0.mk hdr
   have HX := Aside0.mk (S_size t)
   clear hp hdr
   have hix := fun w => index_at tv i hi (S t) htv w
   have HSL := Aside0.mk hsl
   have HFF := HF.out
   have HLL := HL.out
   rw [HD.out, lonGo] at HLL
   clear htv hsl
   by_cases hb : b < (S t).size
   ·
    have hb' := Aside0.mk hb
    cases hq : Lib.hasPrefix l t with
    | true =>
     rw [hq] at HP
     rw [if_pos ⟨by rw [← HX.out]; exact hb, hq⟩, ← HX.out] at HLL
     have HL2 := Aside0.mk HLL
     clear HLL HFF hq
     go_wp2_with (go_at_call 74; (with_reducible refine (HP.out _).mono ?_); rintro e w3 ⟨rfl, rfl⟩)
     go_roundg (gk - 1)
     case measure => have := HF.out; omega
     case rel => exact ⟨i + 1, i, (S t).size, by congr 1, rfl, rfl, ⟨by have := HF.out; omega⟩, HL2, ⟨by rw [HX.out]; exact HSL.out⟩, rfl⟩
    | false =>
     rw [hq] at HP
     rw [if_neg (fun h => by rw [hq] at h; cases h.2)] at HLL
     have HL2 := Aside0.mk HLL
     clear HLL HFF hq
     go_wp2_with (go_at_call 74; (with_reducible refine (HP.out _).mono ?_); rintro e w3 ⟨rfl, rfl⟩)
     go_roundg (gk - 1)
     case measure => have := HF.out; omega
     case rel => exact ⟨i + 1, a, b, by congr 1, rfl, rfl, ⟨by have := HF.out; omega⟩, HL2, HS, rfl⟩
   ·
    rw [if_neg (fun h => hb (by rw [HX.out]; exact h.1))] at HLL
    have HL2 := Aside0.mk HLL
    clear HLL HFF
    go_wp2
    go_roundg (gk - 1)
    case measure => have := HF.out; omega
    case rel => exact ⟨i + 1, a, b, by congr 1, rfl, rfl, ⟨by have := HF.out; omega⟩, HL2, HS, rfl⟩
  ·
   have hlt : decide ((i : Int) < 19) = false := decide_eq_false (by omega)
   have hi19 : i = 19 := by have := HF.out; omega
   have HLL := HL.out
   rw [hi19] at HLL
   have HL2 : (a, b) = longestL l := HLL
   have HA := Aside0.mk HL2
   clear HLL HL2 hi19 HTV HT
   go_wp2
   go_ret2
   rw [← HA.out]
   exact ⟨rfl, HB.out⟩
end Go.Proofs.YtcaegaljhogbjaaGreatDoor.Lx
