/- Plain laws of texts: the pieces of a text between line ends; strings.Split at one byte gives them. No program in sight. -/
import Derived.Test.YtpalncojmknlbaaDoorBytes
import Derived.Lib.Split
import Derived.Lib.SplitLaws
import Derived.Lib.IndexBytes
import Derived.Lib.IndexLaws
namespace Go.Proofs.YtpalncojmknlbaaDoor.Span
open Go.RowKit
set_option linter.unusedVariables false

/-- The pieces of a text between such bytes. -/
def pieces (c : UInt8) : List UInt8 → List (List UInt8)
  | [] => [[]]
  | d :: l => if d = c then [] :: pieces c l else match pieces c l with
    | [] => [[d]]
    | p :: ps => (d :: p) :: ps
theorem pieces_ne (c : UInt8) (l : List UInt8) : pieces c l ≠ [] := by
  cases l with
  | nil => simp [pieces]
  | cons d l =>
    rw [pieces]
    split
    · simp
    · split <;> simp
theorem pieces_none (c : UInt8) (l : List UInt8) (h : ∀ d ∈ l, d ≠ c) : pieces c l = [l] := by
  induction l with
  | nil => rfl
  | cons d l ih => rw [pieces, if_neg (h d (by simp)), ih (fun e he => h e (by simp [he]))]
theorem pieces_hit (c : UInt8) (a b : List UInt8) (h : ∀ d ∈ a, d ≠ c) : pieces c (a ++ c :: b) = a :: pieces c b := by
  induction a with
  | nil => rw [List.nil_append, pieces, if_pos rfl]
  | cons d a ih => rw [List.cons_append, pieces, if_neg (h d (by simp)), ih (fun e he => h e (by simp [he]))]
theorem index_lt' (l : List UInt8) (c : UInt8) (k : Nat) (h : Lib.indexByte l c = k) : k < l.length := by
  have := (Lib.indexByte_some h).1
  rcases Nat.lt_or_ge k l.length with h' | h'
  · exact h'
  · rw [List.getElem?_eq_none h'] at this; cases this
theorem splitK_pieces (c : UInt8) : ∀ n (l : List UInt8), l.length ≤ n → Lib.splitK [c] 0 (l.count c) l = pieces c l := by
  intro n
  induction n with
  | zero =>
    intro l hl
    have : l = [] := List.eq_nil_of_length_eq_zero (by omega)
    subst this
    rfl
  | succ n ih =>
    intro l hl
    have hge := Lib.indexByte_ge l c
    by_cases hn : Lib.indexByte l c = -1
    · have hno : ∀ d ∈ l, d ≠ c := by
        intro d hd e
        obtain ⟨j, hj, hjd⟩ := List.mem_iff_getElem.mp hd
        apply Lib.indexByte_none hn j
        rw [List.getElem?_eq_getElem hj, hjd, e]
      have hc0 : l.count c = 0 := List.count_eq_zero.mpr (fun hm => hno c hm rfl)
      rw [hc0, pieces_none c l hno]
      rfl
    · obtain ⟨k, hk⟩ := Int.eq_ofNat_of_zero_le (show 0 ≤ Lib.indexByte l c by omega)
      have hlt := index_lt' _ _ _ hk
      obtain ⟨h1, h2⟩ := Lib.indexByte_some hk
      have hd : l.drop k = c :: l.drop (k + 1) := by
        rw [List.drop_eq_getElem_cons hlt]
        congr 1
        rw [List.getElem?_eq_getElem hlt] at h1
        exact Option.some.inj h1
      have hno : ∀ d ∈ l.take k, d ≠ c := by
        intro d hdm e
        obtain ⟨j, hj, hjd⟩ := List.mem_take_iff_getElem.mp hdm
        apply h2 j (by omega)
        rw [List.getElem?_eq_getElem (by omega), hjd, e]
      have hl2 : l = l.take k ++ c :: l.drop (k + 1) := by rw [← hd, List.take_append_drop]
      have hcount : l.count c = (l.drop (k + 1)).count c + 1 := by
        conv => lhs; rw [hl2]
        rw [List.count_append, List.count_cons_self, List.count_eq_zero.mpr (fun hm => hno c hm rfl), Nat.zero_add]
      have hp : pieces c l = l.take k :: pieces c (l.drop (k + 1)) := by
        conv => lhs; rw [hl2]
        exact pieces_hit c _ _ hno
      rw [hcount, hp, Lib.splitK, Lib.index_one, hk, if_neg (by simp), Int.toNat_natCast]
      rw [Nat.add_zero, show [c].length = 1 from rfl, ih (l.drop (k + 1)) (by rw [List.length_drop]; omega)]
theorem split_pieces (c : UInt8) (l : List UInt8) : Lib.splitB ⟨#[c]⟩ 0 (Lib.countB (S l) ⟨#[c]⟩) (S l) = (pieces c l).map S := by
  have h := Lib.splitB_data ⟨#[c]⟩ 0 (Lib.countB (S l) ⟨#[c]⟩) (S l)
  have hc : Lib.countB (S l) ⟨#[c]⟩ = l.count c := by
    show Lib.count (S l).data.toList [c] = _
    rw [Lib.count_one, S_list]
  rw [hc, S_list] at h
  have h' : (Lib.splitB ⟨#[c]⟩ 0 (l.count c) (S l)).map (·.data.toList) = pieces c l := h.trans (splitK_pieces c l.length l (Nat.le_refl _))
  rw [hc, ← h', List.map_map]
  have : (S ∘ fun x : ByteArray => x.data.toList) = id := by funext x; exact S_of x
  rw [this, List.map_id]
end Go.Proofs.YtpalncojmknlbaaDoor.Span
