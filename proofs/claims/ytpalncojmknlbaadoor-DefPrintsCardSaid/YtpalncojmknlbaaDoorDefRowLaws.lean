/- The numbers of a definition that came in as a law's argument. -/
import Derived.Test.YtpalncojmknlbaaDoorDefSpec
import Derived.Test.YtpalncojmknlbaaDoorYx3
import Derived.Test.YtpalncojmknlbaaDoorYx4
import Derived.Test.YtpalncojmknlbaaDoorYx5
import Derived.Test.YtpalncojmknlbaaDoorRowDef
namespace Go.Proofs.YtpalncojmknlbaaDoor.Pure
open Go.RowKit Go.Proofs.YtpalncojmknlbaaDoorW.PrintWords Go.Proofs.YtpalncojmknlbaaDoor.Ext Go.Proofs.YtpalncojmknlbaaDoor.A Go.Proofs.YtpalncojmknlbaaDoor.Y Go.Proofs.YtpalncojmknlbaaDoor.Span
set_option linter.unusedVariables false
set_option linter.unusedSimpArgs false

theorem cutV_eq (l : List UInt8) (c : UInt8) : cutV l c = cutG c l := by
 have hge := Lib.indexByte_ge l c
 unfold cutV
 by_cases hn : Lib.indexByte l c < 0
 ·
  have h1 : Lib.indexByte l c = -1 := by omega
  rw [if_pos hn, cutG_none]
  intro d hd e
  obtain ⟨j, hj, hjd⟩ := List.mem_iff_getElem.mp hd
  apply Lib.indexByte_none h1 j
  rw [List.getElem?_eq_getElem hj, hjd, e]
 ·
  obtain ⟨k, hk⟩ := Int.eq_ofNat_of_zero_le (show 0 ≤ Lib.indexByte l c by omega)
  have hlt := index_lt' _ _ _ hk
  obtain ⟨h1, h2⟩ := Lib.indexByte_some hk
  have hd : l.drop k = c :: l.drop (k + 1) := by
   rw [List.drop_eq_getElem_cons hlt]
   congr 1
   rw [List.getElem?_eq_getElem hlt] at h1
   exact Option.some.inj h1
  have hno : ∀ d ∈ l.take k, d ≠ c := by
   intro d hdm e
   obtain ⟨j, hj, hjd⟩ := List.mem_take_iff_getElem.mp hdm
   apply h2 j (by omega)
   rw [List.getElem?_eq_getElem (by omega), hjd, e]
  have hl2 : l = l.take k ++ c :: l.drop (k + 1) := by rw [← hd, List.take_append_drop]
  rw [if_neg hn, hk, Int.toNat_natCast]
  conv => rhs; rw [hl2]
  rw [cutG_hit c _ _ hno]
theorem cut_f (l : List UInt8) (h : l.length ≤ 1000000) : strings_Cut.f (S l) ⟨#[32]⟩ = some (S (cutG 32 l).1, S (cutG 32 l).2.1, (cutG 32 l).2.2) := by
 unfold strings_Cut.f
 rw [S_size, if_pos ⟨by omega, rfl⟩, S_list]
 show some (S (cutV l 32).1, S (cutV l 32).2.1, (cutV l 32).2.2) = _
 rw [cutV_eq]
theorem cut_len (c : UInt8) (l : List UInt8) : (cutG c l).1.length ≤ l.length ∧ (cutG c l).2.1.length ≤ l.length := by
 rcases cutG_cases c l with ⟨_, e, _⟩ | ⟨a, b, _, rfl, e, _⟩
 ·
  rw [e]; exact ⟨Nat.le_refl _, Nat.zero_le _⟩
 ·
  rw [e, List.length_append, List.length_cons]
  show a.length ≤ _ ∧ b.length ≤ _
  exact ⟨by omega, by omega⟩
theorem numV_eq (l : List UInt8) : numV l 999 = match numO l with
  | some n => (n, true)
  | none => (0, false) := by
 unfold numV numO
 split
 ·
  rfl
 ·
  split
  ·
   rfl
  ·
   rfl
theorem numb_f (l : List UInt8) (k : Nat) (hk : l.length + 3 < k) : words_Number.f k (S l) 999 = some (match numO l with
  | some n => (n, true)
  | none => (0, false)) := by rw [num_f l 999 k hk, numV_eq]
theorem cutp_f (l p : List UInt8) (hp : p.length ≤ 100) : strings_CutPrefix.f (S l) (S p) = some (match stripP p l with
  | some r => (S r, true)
  | none => (S l, false)) := by
 unfold strings_CutPrefix.f stringslite_CutPrefix.f stringslite_HasPrefix.f stripP
 rw [S_size, S_size]
 by_cases hl : p.length ≤ l.length
 ·
  rw [if_pos (by omega), if_pos (by omega), if_pos (by omega), Option.bind_some, Int.toNat_natCast, S_upto, Lib.toList_data, Lib.toList_data, S_list, S_list]
  by_cases ht : l.take p.length = p
  ·
   rw [if_pos ht, ht, beq_self_eq_true, if_pos rfl, if_pos (by omega), if_pos (by omega), Option.bind_some]
   have := S_from l p.length
   rw [S_size] at this
   rw [this]
  ·
   rw [if_neg ht, beq_eq_false_iff_ne.mpr ht, if_neg (by decide), Option.bind_some]
 ·
  rw [if_neg (by omega), Option.bind_some, if_neg (by decide), Option.bind_some, if_neg]
  intro e
  have := congrArg List.length e
  rw [List.length_take] at this
  omega
theorem test_f (r : List UInt8) : ∃ x, def_test.f (S r) = some (x, (testL r).isSome) ∧ ∀ g, testL r = some g → x = S g := by
 unfold def_test.f testL
 have := cutp_f r [105, 102, 32] (by decide)
 rw [show (⟨#[105, 102, 32]⟩ : ByteArray) = S [105, 102, 32] from rfl, this, Option.bind_some]
 cases h : stripP [105, 102, 32] r with
 | none => exact ⟨_, rfl, fun g hg => by cases hg⟩
 | some g =>
  dsimp only [Option.bind_some]
  rw [if_pos rfl, Lib.toList_data, S_list]
  by_cases hg : g = []
  ·
   refine ⟨S g, ?_, ?_⟩
   ·
    rw [if_pos hg, hg]; rfl
   ·
    intro x hx; rw [if_pos hg] at hx; cases hx
  ·
   refine ⟨S g, ?_, ?_⟩
   ·
    rw [if_neg hg]
    cases g with
    | nil => exact absurd rfl hg
    | cons a b => rfl
   ·
    intro x hx; rw [if_neg hg] at hx; rw [Option.some.inj hx]
def outF (o : Option S42) : Int × Int × Int × Int × ByteArray × Bool := match o with
 | some f => (f.f0, f.f1, f.f2, f.f3, f.f4, true)
 | none => (0, 0, 0, 0, ⟨#[]⟩, false)
theorem flow_f (rest : List UInt8) (hl : rest.length ≤ 1000000) (k : Nat) (hk : rest.length + 4 < k) : def_flow.f k (S rest) = some (outF (flowR rest)) := by
 unfold def_flow.f flowR
 have l1 := cut_len 32 rest
 have l2 := cut_len 32 (cutG 32 rest).2.1
 rw [cut_f rest hl, Option.bind_some]
 dsimp only
 rw [cut_f _ (by omega), Option.bind_some]
 dsimp only
 rw [numb_f _ k (by omega), Option.bind_some, numb_f _ k (by omega), Option.bind_some]
 obtain ⟨k, rfl⟩ : ∃ i, k = i + 1 := ⟨k - 1, by omega⟩
 generalize hR : (cutG 32 rest).2.1 = R at *
 cases ha : numO (cutG 32 rest).1 with
 | none => rfl
 | some a =>
  rw [if_pos rfl, Option.bind_some]
  cases hb : numO (cutG 32 R).1 with
  | none => rfl
  | some b =>
   rw [Option.bind_some]
   show def_flow.j0 (k + 1) (S (cutG 32 R).2.1) (cutG 32 R).2.2 false a b 0 0 ⟨#[]⟩ = _
   rw [def_flow.j0, if_neg Bool.false_ne_true]
   cases hc : (cutG 32 R).2.2 with
   | false => rfl
   | true =>
    rw [if_pos rfl, if_neg (show ¬ (true = false) by decide), Lib.toList_data, S_list]
    by_cases hd : (cutG 32 R).2.1 = wDefault
    ·
     rw [if_pos (show (cutG 32 R).2.1 = [100, 101, 102, 97, 117, 108, 116] from hd), if_pos hd]; rfl
    ·
     rw [if_neg (show ¬ (cutG 32 R).2.1 = [100, 101, 102, 97, 117, 108, 116] from hd), if_neg hd]
     rw [show (⟨#[97, 103, 97, 105, 110, 32]⟩ : ByteArray) = S [97, 103, 97, 105, 110, 32] from rfl, cutp_f _ _ (by decide), Option.bind_some]
     cases hs : stripP [97, 103, 97, 105, 110, 32] (cutG 32 R).2.1 with
     | none =>
      dsimp only
      rw [if_neg (by decide)]
      obtain ⟨x, hx, hg⟩ := test_f (cutG 32 R).2.1
      rw [hx, Option.bind_some]
      cases ht : testL (cutG 32 R).2.1 with
      | none => rfl
      | some g => rw [Option.bind_some, hg g ht]; rfl
     | some r =>
      dsimp only
      have l3 := cut_len 32 r
      have l4 : r.length ≤ (cutG 32 R).2.1.length := by
       have := congrArg List.length (stripP_some hs)
       rw [List.length_append] at this; omega
      rw [if_pos rfl, cut_f _ (by omega), Option.bind_some]
      dsimp only
      rw [numb_f _ k (by omega), Option.bind_some]
      cases hm : numO (cutG 32 r).1 with
      | none => rfl
      | some m =>
       dsimp only
       rw [if_pos rfl, Option.bind_some]
       obtain ⟨x, hx, hg⟩ := test_f (cutG 32 r).2.1
       rw [hx, Option.bind_some]
       cases ht : testL (cutG 32 r).2.1 with
       | none => rfl
       | some g => rw [Option.bind_some, hg g ht]; rfl
/-! ### A node's line -/
def NodeOk (o : Option S40) (r : Int × Int × Int × Int × ByteArray × Bool) : Prop := match o with
 | some n => r = (n.f0, n.f1, n.f2, n.f3, n.f4, true) ∧ n.f0 ≠ 0
 | none => r.2.2.2.2.2 = true → r.1 = 0
theorem nodeOk_no (r : Int × Int × Int × Int × ByteArray × Bool) (h : r.2.2.2.2.2 = false) : NodeOk none r := fun e => by rw [h] at e; cases e
theorem one_num (k : Nat) (kd : Int) (tm : ByteArray) (h : ¬ (kd = 3 ∨ kd = 8 ∨ kd = 9)) (l : List (List UInt8)) (hk : ∀ x ∈ l, x.length + 3 < k) :
  nodeNums k kd tm (l.map S) = some (match l with
   | [x] => (match numO x with
    | some a => (kd, a, 0, 0, tm, true)
    | none => (0, 0, 0, 0, ⟨#[]⟩, false))
   | _ => (0, 0, 0, 0, ⟨#[]⟩, false)) := by
 unfold nodeNums
 rw [if_neg h]
 match l, hk with
 | [], _ => rfl
 | [x], hk =>
  show (words_Number.f k (S x) 999).bind _ = _
  rw [numb_f x k (hk x (by simp)), Option.bind_some]
  dsimp only
  cases hx : numO x with
  | none => rfl
  | some a => rfl
 | x :: y :: r, _ => rfl
theorem two_num (k : Nat) (kd : Int) (tm : ByteArray) (h : kd = 3 ∨ kd = 8 ∨ kd = 9) (l : List (List UInt8)) (hk : ∀ x ∈ l, x.length + 3 < k) :
  nodeNums k kd tm (l.map S) = some (match l with
   | [x, y] => (match numO x, numO y with
    | some a, some b => (if kd = 3 then (kd, a, b, 0, tm, true) else (kd, a, 0, b, tm, true))
    | _, _ => (0, 0, 0, 0, ⟨#[]⟩, false))
   | _ => (0, 0, 0, 0, ⟨#[]⟩, false)) := by
 unfold nodeNums
 rw [if_pos h]
 match l, hk with
 | [], _ => rfl
 | [x], _ => rfl
 | [x, y], hk =>
  show (words_Number.f k (S x) 999).bind _ = _
  rw [numb_f x k (hk x (by simp)), Option.bind_some]
  dsimp only
  cases hx : numO x with
  | none => rfl
  | some a =>
   dsimp only
   rw [if_pos rfl, numb_f y k (hk y (by simp)), Option.bind_some]
   cases hy : numO y with
   | none => rfl
   | some b =>
    dsimp only
    rw [if_pos rfl]
    split <;> rfl
 | x :: y :: z :: r, _ => rfl
theorem last_S (l : List (List UInt8)) (h : l ≠ []) : (l.map S).getLastD ⟨#[]⟩ = S (l.getLast h) := by
 rw [List.getLastD_eq_getLast?, List.getLast?_map, List.getLast?_eq_some_getLast h]; rfl
theorem drop_S (l : List (List UInt8)) : (l.map S).dropLast = l.dropLast.map S := (List.map_dropLast).symm
theorem nodeWords_ok (k : Nat) (x : List UInt8) (l : List (List UInt8)) (hk : ∀ y ∈ l, y.length + 3 < k) : ∃ r, nodeWords k (S x) (l.map S) = some r ∧ NodeOk (nodeT x l) r := by
 unfold nodeWords nodeT
 rw [S_list]
 have hkd : ∀ y ∈ l.dropLast, y.length + 3 < k := fun y hy => hk y ((List.dropLast_sublist l).subset hy)
 by_cases h0 : kindOf x = 0
 ·
  rw [h0, if_pos rfl, if_neg (by decide), one_num k 0 _ (by decide) l hk]
  refine ⟨_, rfl, fun _ => ?_⟩
  split
  ·
   split <;> rfl
  ·
   rfl
 rw [if_neg h0]
 by_cases h3 : kindOf x = 3
 ·
  rw [if_pos h3, h3, if_neg (by decide), two_num k 3 _ (by decide) l hk]
  refine ⟨_, rfl, ?_⟩
  match l with
  | [] => exact nodeOk_no _ rfl
  | [a] => exact nodeOk_no _ rfl
  | [a, b] =>
   dsimp only
   cases ha : numO a with
   | none => exact nodeOk_no _ rfl
   | some n =>
    cases hb : numO b with
    | none => exact nodeOk_no _ rfl
    | some m => exact ⟨rfl, show (3 : Int) ≠ 0 by decide⟩
  | a :: b :: c :: r => exact nodeOk_no _ rfl
 rw [if_neg h3]
 by_cases h4 : kindOf x = 4
 ·
  rw [if_pos h4, if_pos (Or.inl h4), h4]
  by_cases hl : l = []
  ·
   subst hl
   refine ⟨_, if_pos rfl, nodeOk_no _ rfl⟩
  ·
   rw [if_neg (fun e => hl (List.map_eq_nil_iff.mp e)), last_S l hl, drop_S, one_num k 4 _ (by decide) _ hkd]
   refine ⟨_, rfl, ?_⟩
   match l, hl with
   | [a], _ => exact nodeOk_no _ rfl
   | [a, b], _ =>
    show NodeOk ((numO a).bind fun n => some ⟨4, n, 0, 0, S b⟩) (match numO a with
     | some n => ((4 : Int), n, 0, 0, S b, true)
     | none => (0, 0, 0, 0, ⟨#[]⟩, false))
    cases ha : numO a with
    | none => exact nodeOk_no _ rfl
    | some n => exact ⟨rfl, show (4 : Int) ≠ 0 by decide⟩
   | a :: b :: c :: r, _ => exact nodeOk_no _ rfl
 rw [if_neg h4]
 by_cases h89 : kindOf x = 8 ∨ kindOf x = 9
 ·
  rw [if_pos h89, if_pos (Or.inr h89)]
  by_cases hl : l = []
  ·
   subst hl
   refine ⟨_, if_pos rfl, nodeOk_no _ rfl⟩
  ·
   rw [if_neg (fun e => hl (List.map_eq_nil_iff.mp e)), last_S l hl, drop_S, two_num k (kindOf x) _ (Or.inr h89) _ hkd]
   refine ⟨_, rfl, ?_⟩
   match l, hl with
   | [a], _ => exact nodeOk_no _ rfl
   | [a, b], _ => exact nodeOk_no _ rfl
   | [a, b, c], _ =>
    show NodeOk ((numO a).bind fun n => (numO b).bind fun m => some ⟨kindOf x, n, 0, m, S c⟩) (match numO a, numO b with
     | some n, some m => (if kindOf x = 3 then (kindOf x, n, m, 0, S c, true) else (kindOf x, n, 0, m, S c, true))
     | _, _ => (0, 0, 0, 0, ⟨#[]⟩, false))
    cases ha : numO a with
    | none => exact nodeOk_no _ rfl
    | some n =>
     cases hb : numO b with
     | none => exact nodeOk_no _ rfl
     | some m =>
      dsimp only [Option.bind_some]
      rw [if_neg h3]
      exact ⟨rfl, h0⟩
   | a :: b :: c :: d :: r, _ => exact nodeOk_no _ rfl
 rw [if_neg h89, if_neg (fun h => h.elim h4 h89), one_num k (kindOf x) _ (fun h => h.elim h3 h89) l hk]
 refine ⟨_, rfl, ?_⟩
 match l with
 | [] => exact nodeOk_no _ rfl
 | [a] =>
  dsimp only
  cases ha : numO a with
  | none => exact nodeOk_no _ rfl
  | some n => exact ⟨rfl, h0⟩
 | a :: b :: r => exact nodeOk_no _ rfl
theorem pieces_len (c : UInt8) (l : List UInt8) : (∀ x ∈ pieces c l, x.length ≤ l.length) ∧ (pieces c l).length ≤ l.length + 1 := by
 induction l with
 | nil => exact ⟨by simp [pieces], by simp [pieces]⟩
 | cons d l ih =>
  rw [pieces]
  split
  ·
   refine ⟨?_, by simpa using ih.2⟩
   intro x hx
   rcases List.mem_cons.1 hx with rfl | hx
   ·
    exact Nat.zero_le _
   ·
    have := ih.1 x hx; rw [List.length_cons]; omega
  ·
   cases hp : pieces c l with
   | nil => exact absurd hp (pieces_ne c l)
   | cons p ps =>
    rw [hp] at ih
    refine ⟨?_, by have := ih.2; simp at this ⊢; omega⟩
    intro x hx
    rcases List.mem_cons.1 hx with rfl | hx
    ·
     have := ih.1 p (by simp); simp; omega
    ·
     have := ih.1 x (by simp [hx]); simp; omega
theorem node_f (line : List UInt8) (hl : line.length ≤ 100000) (k : Nat) (hk : line.length + 3 < k) : ∃ r, def_node.f k (S line) = some r ∧ NodeOk (nodeL line) r := by
 unfold def_node.f nodeL
 rw [split_f line (by omega), Option.bind_some]
 unfold wordsL
 have hpl := pieces_len 32 line
 have hpn := pieces_ne 32 line
 split
 ·
  dsimp only
  rw [if_pos rfl]
  generalize pieces 32 line = ps at *
  match ps, hpn, hpl with
  | x :: l, _, hpl =>
   rw [List.map_cons]
   dsimp only
   rw [S_size, List.length_map, if_pos ⟨by have := hpl.1 x (by simp); unfold maxLen; omega, by have := hpl.2; rw [List.length_cons] at this; omega⟩]
   exact nodeWords_ok k x l (fun y hy => by have := hpl.1 y (by simp [hy]); omega)
 ·
  exact ⟨_, rfl, nodeOk_no _ rfl⟩
/-! ### A line, and all lines -/
theorem stepL_err {st : St} {line : List UInt8} {e : Nat} (h : stepL st line = .error e) : e = 2 ∨ e = 15 := by
 unfold stepL at h
 split at h
 ·
  split at h
  ·
   exact Or.inl (Except.error.inj h).symm
  ·
   split at h
   ·
    exact Or.inr (Except.error.inj h).symm
   ·
    cases h
 ·
  split at h
  ·
   exact Or.inl (Except.error.inj h).symm
  ·
   split at h
   ·
    exact Or.inr (Except.error.inj h).symm
   ·
    split at h
    ·
     exact Or.inl (Except.error.inj h).symm
    ·
     cases h
def outS (nm : ByteArray) (st : St) : Except Nat St → ByteArray × List S40 × List S42 × Int
 | .ok st' => (nm, st'.1, st'.2, 0)
 | .error e => (nm, st.1, st.2, (e : Int))
theorem put_f (nm : ByteArray) (st : St) (i : Int) (hi : i ≠ 0) (line : List UInt8) (hl : line.length ≤ 100000) (h1 : st.1.length ≤ 100000) (h2 : st.2.length ≤ 100000) (k : Nat) (hk : line.length + 5 < k) :
  def_put.f k nm st.1 st.2 i (S line) = some (outS nm st (stepL st line)) := by
 unfold def_put.f stepL
 have l1 := cut_len 32 line
 rw [cut_f line (by omega), Option.bind_some]
 dsimp only
 rw [if_neg hi, Lib.toList_data, S_list]
 by_cases hw : (cutG 32 line).1 = wFlow
 ·
  rw [if_pos (show (cutG 32 line).1 = [102, 108, 111, 119] from hw), if_pos hw, flow_f _ (by omega) k (by omega), Option.bind_some]
  cases hf : flowR (cutG 32 line).2.1 with
  | none => rfl
  | some f =>
   rw [if_pos (show (outF (some f)).2.2.2.2.2 = true from rfl)]
   show _ = some (outS nm st (if 90 ≤ st.2.length then .error 15 else .ok (st.1, st.2 ++ [f])))
   by_cases h9 : 90 ≤ st.2.length
   ·
    rw [if_pos (by omega), if_pos h9]; rfl
   ·
    rw [if_neg (by omega), if_neg h9, if_pos (by omega)]; rfl
 ·
  rw [if_neg (show ¬ (cutG 32 line).1 = [102, 108, 111, 119] from hw), if_neg hw]
  obtain ⟨r, hr, hok⟩ := node_f line hl k (by omega)
  rw [hr, Option.bind_some]
  obtain ⟨k, rfl⟩ : ∃ j, k = j + 1 := ⟨k - 1, by omega⟩
  cases hn : nodeL line with
  | none =>
   rw [hn] at hok
   have hok' : r.2.2.2.2.2 = true → r.1 = 0 := hok
   cases hb : r.2.2.2.2.2 with
   | false => rfl
   | true =>
    rw [if_pos rfl, hok' hb]
    rfl
  | some n =>
   rw [hn] at hok
   obtain ⟨rfl, h0⟩ := hok
   dsimp only
   rw [if_pos rfl, beq_eq_false_iff_ne.mpr h0]
   rw [def_put.j0, if_neg Bool.false_ne_true]
   by_cases h6 : 60 ≤ st.1.length
   ·
    rw [if_pos (by omega), if_pos h6]; rfl
   ·
    rw [if_neg (by omega), if_neg h6]
    by_cases hf : 0 < st.2.length
    ·
     rw [if_pos (by omega), if_pos hf]; rfl
    ·
     rw [if_neg (by omega), if_neg hf, if_pos (by omega)]; rfl
theorem put_0 (nm : ByteArray) (st : St) (line : List UInt8) (hl : line.length ≤ 100000) (k : Nat) (hk : line.length + 5 < k) :
  def_put.f k nm st.1 st.2 0 (S line) = some (S (cutG 32 line).2.1, st.1, st.2, if (cutG 32 line).1 = wProcess ∧ nameV (cutG 32 line).2.1 = true then 0 else 2) := by
 unfold def_put.f
 have l1 := cut_len 32 line
 rw [cut_f line (by omega), Option.bind_some]
 dsimp only
 rw [if_pos rfl, Lib.toList_data, S_list, wn_f _ (by omega) k (by omega), Option.bind_some]
 by_cases hw : (cutG 32 line).1 = wProcess
 ·
  rw [if_pos (show (cutG 32 line).1 = [112, 114, 111, 99, 101, 115, 115] from hw)]
  by_cases hn : nameV (cutG 32 line).2.1 = true
  ·
   rw [if_pos hn, if_pos ⟨hw, hn⟩]
  ·
   rw [if_neg hn, if_neg (fun h => hn h.2)]
 ·
  rw [if_neg (show ¬ (cutG 32 line).1 = [112, 114, 111, 99, 101, 115, 115] from hw), if_neg (fun h => hw h.1)]
def outG (nm : ByteArray) : Except (Nat × Nat) St → ByteArray × List S40 × List S42 × Int × Int
 | .ok st => (nm, st.1, st.2, 0, 0)
 | .error e => (⟨#[]⟩, [], [], (e.1 : Int), (e.2 : Int))
theorem go_f (ls : List (List UInt8)) (hn : ls.length ≤ 10000) (B : Nat) (hB : B ≤ 100000) (hls : ∀ l ∈ ls, l.length ≤ B) (nm : ByteArray) : ∀ (m i k : Nat) (st : St), ls.length - i = m → 1 ≤ i → i ≤ ls.length → st.1.length ≤ i → st.2.length ≤ i → m + B + 6 < k →
  def_Parse.l0 k (ls.map S) (ls.length : Int) (i : Int) nm st.1 st.2 = some (outG nm (goL i st (ls.drop i))) := by
 intro m
 induction m with
 | zero =>
  intro i k st hm h1 hi _ _ hk
  obtain ⟨k, rfl⟩ : ∃ j, k = j + 1 := ⟨k - 1, by omega⟩
  simp only [def_Parse.l0]
  rw [if_neg (by omega), List.drop_eq_nil_of_le (by omega)]; rfl
 | succ m ih =>
  intro i k st hm h1 hi hs1 hs2 hk
  obtain ⟨k, rfl⟩ : ∃ j, k = j + 1 := ⟨k - 1, by omega⟩
  have hlt : i < ls.length := by omega
  have hmem : ls[i] ∈ ls := List.getElem_mem hlt
  simp only [def_Parse.l0]
  rw [if_pos (by omega), if_pos (by omega), List.length_map, if_pos (by omega)]
  rw [rd_at _ i (by rw [List.length_map]; exact hlt), List.getElem_map, put_f nm st i (by omega) ls[i] (by have := hls _ hmem; omega) (by omega) (by omega) k (by have := hls _ hmem; omega), Option.bind_some, List.drop_eq_getElem_cons hlt, goL, wrapS i (by omega)]
  cases hst : stepL st ls[i] with
  | error e =>
   have he := stepL_err hst
   rw [if_neg (show ¬ (outS nm st (.error e)).2.2.2 = 0 by show ¬ ((e : Int) = 0); omega)]
   rfl
  | ok st' =>
   rw [if_pos (show (outS nm st (.ok st')).2.2.2 = 0 from rfl)]
   refine ih (i + 1) k st' (by omega) (by omega) (by omega) ?_ ?_ (by omega)
   ·
    rcases stepL_ok hst with ⟨f, rfl, _⟩ | ⟨n, rfl, _⟩
    ·
     show st.1.length ≤ i + 1; omega
    ·
     show (st.1 ++ [n]).length ≤ i + 1; rw [List.length_append, List.length_singleton]; omega
   ·
    rcases stepL_ok hst with ⟨f, rfl, _⟩ | ⟨n, rfl, _⟩
    ·
     show (st.2 ++ [f]).length ≤ i + 1; rw [List.length_append, List.length_singleton]; omega
    ·
     show st.2.length ≤ i + 1; omega
def outP : Except (Nat × Nat) (List UInt8 × St) → ByteArray × List S40 × List S42 × Int × Int
 | .ok (nm, st) => (S nm, st.1, st.2, 0, 0)
 | .error e => (⟨#[]⟩, [], [], (e.1 : Int), (e.2 : Int))
theorem linesL_len (t : List UInt8) : (∀ l ∈ (linesL t).1, l.length ≤ t.length) ∧ (linesL t).1.length ≤ t.length + 1 := by
 have hp := pieces_len 10 t
 have h0 : (∀ l ∈ ([] : List (List UInt8)), l.length ≤ t.length) ∧ ([] : List (List UInt8)).length ≤ t.length + 1 := ⟨by simp, by simp⟩
 unfold linesL
 split
 ·
  exact h0
 ·
  split
  ·
   split
   ·
    exact ⟨fun l hl => hp.1 l ((List.dropLast_sublist _).subset hl), by dsimp only; rw [List.length_dropLast]; omega⟩
   ·
    exact h0
  ·
   exact h0
theorem parse_f (t : List UInt8) (k : Nat) (hk : 13000 ≤ k) : def_Parse.f k (S t) = some (outP (parseT t)) := by
 unfold def_Parse.f
 by_cases h6 : 6000 < t.length
 ·
  have hv : words_Lines.f k (S t) = some ([], 15) := by
   unfold words_Lines.f; rw [S_size, if_pos (by omega)]
  have hp : linesL t = ([], 15) := by unfold linesL; rw [if_pos h6]
  rw [hv, Option.bind_some]
  unfold parseT
  rw [hp]; rfl
 rw [lines_f t k (by omega)]
 have hl := linesL_len t
 unfold parseT VL
 rw [Option.bind_some]
 dsimp only
 by_cases h0 : (linesL t).2 = 0
 ·
  rw [h0, if_pos rfl, if_pos (show ((0 : Nat) : Int) = 0 from rfl), List.length_map]
  generalize (linesL t).1 = ls at hl
  match ls, hl with
  | [], _ => rfl
  | l :: ls, hl =>
   rw [if_neg (by simp; omega)]
   obtain ⟨k, rfl⟩ : ∃ j, k = j + 1 := ⟨k - 1, by omega⟩
   have hll := hl.1 l (by simp)
   have hlen := hl.2
   rw [List.length_cons] at hlen
   simp only [def_Parse.l0]
   rw [if_pos (by simp), if_pos (by omega), if_pos (by simp)]
   have hr0 := rd_at ((l :: ls).map S) 0 (by simp)
   have hp0 := put_0 ⟨#[]⟩ ([], []) l (by omega) k (by omega)
   have hr0' : rdOf ByteArray.empty ((l :: ls).map S) 0 = S l := hr0
   dsimp only at hp0
   rw [hr0', hp0, Option.bind_some]
   dsimp only
   show _ = some (outP (parseL1 l ls))
   unfold parseL1
   by_cases hc : (cutG 32 l).1 = wProcess ∧ nameV (cutG 32 l).2.1 = true
   ·
    rw [if_pos hc, if_pos hc, if_pos rfl]
    have hg := go_f (l :: ls) (by rw [List.length_cons]; omega) 6000 (by omega) (fun x hx => by have := hl.1 x hx; omega) (S (cutG 32 l).2.1) ls.length 1 k ([], []) (by rw [List.length_cons]; omega) (Nat.le_refl _) (by rw [List.length_cons]; omega) (by simp) (by simp) (by omega)
    have hw1 : wrap64 ((0 : Int) + 1) = ((1 : Nat) : Int) := by unfold wrap64; omega
    rw [hw1]
    refine hg.trans ?_
    rw [List.drop_succ_cons, List.drop_zero]
    cases goL 1 ([], []) ls with
    | ok st => rfl
    | error e => rfl
   ·
    have hw1 : wrap64 ((0 : Int) + 1) = 1 := by unfold wrap64; omega
    rw [if_neg hc, if_neg hc, if_neg (by decide), hw1]
    rfl
 ·
  rw [if_neg (by omega), if_neg h0]
  rfl
end Go.Proofs.YtpalncojmknlbaaDoor.Pure

namespace Go.Proofs.YtpalncojmknlbaaDoor.Pure
open Go.RowKit Go.Proofs.YtpalncojmknlbaaDoorW.PrintWords Go.Proofs.YtpalncojmknlbaaDoor.Ext Go.Proofs.YtpalncojmknlbaaDoor.A Go.Proofs.YtpalncojmknlbaaDoor.Y Go.Proofs.YtpalncojmknlbaaDoor.Span
set_option linter.unusedVariables false
set_option linter.unusedSimpArgs false

theorem wakes_ok (k : Nat) (hk : 100 ≤ k) : remontoirlaw17_wakes.f k = some true := up (fun k => remontoirlaw17_wakes.mono k) hk (by kernel_rfl)
/-! ### Equal nodes, equal flows -/
theorem ne40 (x y : S40) : ((!(x.f0 == y.f0) || (!(x.f1 == y.f1) || (!(x.f2 == y.f2) || (!(x.f3 == y.f3) || (!(x.f4.toList == y.f4.toList)))))) = true) ↔ x ≠ y := by
 obtain ⟨a, b, c, d, e⟩ := x
 obtain ⟨a', b', c', d', e'⟩ := y
 simp only [Bool.or_eq_true, Bool.not_eq_true', beq_eq_false_iff_ne, ne_eq, S40.mk.injEq]
 rw [text_eq]
 by_cases h1 : a = a' <;> by_cases h2 : b = b' <;> by_cases h3 : c = c' <;> by_cases h4 : d = d' <;> by_cases h5 : e = e' <;> simp [h1, h2, h3, h4, h5]
theorem ne42 (x y : S42) : ((!(x.f0 == y.f0) || (!(x.f1 == y.f1) || (!(x.f2 == y.f2) || (!(x.f3 == y.f3) || (!(x.f4.toList == y.f4.toList)))))) = true) ↔ x ≠ y := by
 obtain ⟨a, b, c, d, e⟩ := x
 obtain ⟨a', b', c', d', e'⟩ := y
 simp only [Bool.or_eq_true, Bool.not_eq_true', beq_eq_false_iff_ne, ne_eq, S42.mk.injEq]
 rw [text_eq]
 by_cases h1 : a = a' <;> by_cases h2 : b = b' <;> by_cases h3 : c = c' <;> by_cases h4 : d = d' <;> by_cases h5 : e = e' <;> simp [h1, h2, h3, h4, h5]
theorem rd40 (xs : List S40) (j : Nat) (h : j < xs.length) : rd_T40 xs (j : Int) = xs[j] := by
 unfold rd_T40; rw [Int.toNat_natCast, List.getD_eq_getElem?_getD, List.getElem?_eq_getElem h]; rfl
theorem rd42 (xs : List S42) (j : Nat) (h : j < xs.length) : rd_T42 xs (j : Int) = xs[j] := by
 unfold rd_T42; rw [Int.toNat_natCast, List.getD_eq_getElem?_getD, List.getElem?_eq_getElem h]; rfl
theorem eqn_l0 (a b : List S40) (hl : a.length = b.length) (hn : a.length ≤ 100000) : ∀ m i k : Nat, a.length - i = m → i ≤ a.length → m < k →
  ∃ r, api_Node.l0 k a b (a.length : Int) (i : Int) = some r ∧ (r = true ↔ a.drop i = b.drop i) := by
 intro m
 induction m with
 | zero =>
  intro i k hm hi hk
  obtain ⟨k, rfl⟩ : ∃ j, k = j + 1 := ⟨k - 1, by omega⟩
  simp only [api_Node.l0]
  rw [if_neg (by omega), List.drop_eq_nil_of_le (by omega), List.drop_eq_nil_of_le (by omega)]
  exact ⟨true, rfl, by simp⟩
 | succ m ih =>
  intro i k hm hi hk
  obtain ⟨k, rfl⟩ : ∃ j, k = j + 1 := ⟨k - 1, by omega⟩
  have h1 : i < a.length := by omega
  have h2 : i < b.length := by omega
  simp only [api_Node.l0]
  rw [if_pos (by omega), if_pos (by omega), if_pos (by omega), if_pos (by omega), rd40 a i h1, rd40 b i h2, List.drop_eq_getElem_cons h1, List.drop_eq_getElem_cons h2, wrapS i (by omega)]
  by_cases hne : a[i] = b[i]
  ·
   rw [if_neg (fun h => (ne40 _ _).mp h hne)]
   obtain ⟨r, hr, hiff⟩ := ih (i + 1) k (by omega) (by omega) (by omega)
   exact ⟨r, hr, by rw [hiff, List.cons.injEq]; simp [hne]⟩
  ·
   rw [if_pos ((ne40 _ _).mpr hne)]
   exact ⟨false, rfl, ⟨fun h => absurd h Bool.false_ne_true, fun h => absurd (List.cons.inj h).1 hne⟩⟩
theorem eqn_f (a b : List S40) (hn : a.length ≤ 100000) (k : Nat) (hk : a.length < k) : ∃ r, api_Node.f k a b = some r ∧ (r = true ↔ a = b) := by
 unfold api_Node.f
 by_cases hl : a.length = b.length
 ·
  rw [if_pos (by omega)]
  obtain ⟨r, hr, hi⟩ := eqn_l0 a b hl hn a.length 0 k rfl (Nat.zero_le _) hk
  exact ⟨r, hr, by rw [hi, List.drop_zero, List.drop_zero]⟩
 ·
  rw [if_neg (by omega)]
  exact ⟨false, rfl, by constructor; (intro h; cases h); (rintro rfl; exact absurd rfl hl)⟩
theorem eqf_l0 (a b : List S42) (hl : a.length = b.length) (hn : a.length ≤ 100000) : ∀ m i k : Nat, a.length - i = m → i ≤ a.length → m < k →
  ∃ r, api_Flow.l0 k a b (a.length : Int) (i : Int) = some r ∧ (r = true ↔ a.drop i = b.drop i) := by
 intro m
 induction m with
 | zero =>
  intro i k hm hi hk
  obtain ⟨k, rfl⟩ : ∃ j, k = j + 1 := ⟨k - 1, by omega⟩
  simp only [api_Flow.l0]
  rw [if_neg (by omega), List.drop_eq_nil_of_le (by omega), List.drop_eq_nil_of_le (by omega)]
  exact ⟨true, rfl, by simp⟩
 | succ m ih =>
  intro i k hm hi hk
  obtain ⟨k, rfl⟩ : ∃ j, k = j + 1 := ⟨k - 1, by omega⟩
  have h1 : i < a.length := by omega
  have h2 : i < b.length := by omega
  simp only [api_Flow.l0]
  rw [if_pos (by omega), if_pos (by omega), if_pos (by omega), if_pos (by omega), rd42 a i h1, rd42 b i h2, List.drop_eq_getElem_cons h1, List.drop_eq_getElem_cons h2, wrapS i (by omega)]
  by_cases hne : a[i] = b[i]
  ·
   rw [if_neg (fun h => (ne42 _ _).mp h hne)]
   obtain ⟨r, hr, hiff⟩ := ih (i + 1) k (by omega) (by omega) (by omega)
   exact ⟨r, hr, by rw [hiff, List.cons.injEq]; simp [hne]⟩
  ·
   rw [if_pos ((ne42 _ _).mpr hne)]
   exact ⟨false, rfl, ⟨fun h => absurd h Bool.false_ne_true, fun h => absurd (List.cons.inj h).1 hne⟩⟩
theorem eqf_f (a b : List S42) (hn : a.length ≤ 100000) (k : Nat) (hk : a.length < k) : ∃ r, api_Flow.f k a b = some r ∧ (r = true ↔ a = b) := by
 unfold api_Flow.f
 by_cases hl : a.length = b.length
 ·
  rw [if_pos (by omega)]
  obtain ⟨r, hr, hi⟩ := eqf_l0 a b hl hn a.length 0 k rfl (Nat.zero_le _) hk
  exact ⟨r, hr, by rw [hi, List.drop_zero, List.drop_zero]⟩
 ·
  rw [if_neg (by omega)]
  exact ⟨false, rfl, by constructor; (intro h; cases h); (rintro rfl; exact absurd rfl hl)⟩
/-! ### Light definitions -/
theorem light_l1 (nm : ByteArray) (ns : List S40) (fs : List S42) (hf : fs.length ≤ 110) : ∀ m i k : Nat, fs.length - i = m → i ≤ fs.length → m < k →
  ∃ r, remontoirkeep_LightDef.l1 k (i : Int) nm ns fs = some r ∧ (r = true → ∀ f ∈ fs.drop i, f.f4.size ≤ 80) := by
 intro m
 induction m with
 | zero =>
  intro i k hm hi hk
  obtain ⟨k, rfl⟩ : ∃ j, k = j + 1 := ⟨k - 1, by omega⟩
  simp only [remontoirkeep_LightDef.l1]
  rw [if_neg (by omega), List.drop_eq_nil_of_le (by omega)]
  exact ⟨true, rfl, by simp⟩
 | succ m ih =>
  intro i k hm hi hk
  obtain ⟨k, rfl⟩ : ∃ j, k = j + 1 := ⟨k - 1, by omega⟩
  have h1 : i < fs.length := by omega
  simp only [remontoirkeep_LightDef.l1]
  rw [if_pos (by omega), if_pos (by omega), rd42 fs i h1, wrapS i (by omega), List.drop_eq_getElem_cons h1]
  by_cases hs : (fs[i].f4.size : Int) > 80
  ·
   rw [if_pos hs]; exact ⟨false, rfl, fun h => by cases h⟩
  ·
   rw [if_neg hs]
   obtain ⟨r, hr, h⟩ := ih (i + 1) k (by omega) (by omega) (by omega)
   refine ⟨r, hr, fun e f hm => ?_⟩
   rcases List.mem_cons.1 hm with rfl | hm
   ·
    omega
   ·
    exact h e f hm
theorem light_l0 (nm : ByteArray) (ns : List S40) (fs : List S42) (hn : ns.length ≤ 70) (hf : fs.length ≤ 110) : ∀ m i k : Nat, ns.length - i = m → i ≤ ns.length → m + 200 < k →
  ∃ r, remontoirkeep_LightDef.l0 k (i : Int) nm ns fs = some r ∧ (r = true → (∀ n ∈ ns.drop i, n.f4.size ≤ 80) ∧ ∀ f ∈ fs, f.f4.size ≤ 80) := by
 intro m
 induction m with
 | zero =>
  intro i k hm hi hk
  obtain ⟨k, rfl⟩ : ∃ j, k = j + 1 := ⟨k - 1, by omega⟩
  simp only [remontoirkeep_LightDef.l0]
  rw [if_neg (by omega), List.drop_eq_nil_of_le (by omega)]
  obtain ⟨r, hr, h⟩ := light_l1 nm ns fs hf fs.length 0 k rfl (Nat.zero_le _) (by omega)
  exact ⟨r, hr, fun e => ⟨by simp, fun f hm => h e f (by rwa [List.drop_zero])⟩⟩
 | succ m ih =>
  intro i k hm hi hk
  obtain ⟨k, rfl⟩ : ∃ j, k = j + 1 := ⟨k - 1, by omega⟩
  have h1 : i < ns.length := by omega
  simp only [remontoirkeep_LightDef.l0]
  rw [if_pos (by omega), if_pos (by omega), rd40 ns i h1, wrapS i (by omega), List.drop_eq_getElem_cons h1]
  by_cases hs : (ns[i].f4.size : Int) > 80
  ·
   rw [if_pos hs]; exact ⟨false, rfl, fun h => by cases h⟩
  ·
   rw [if_neg hs]
   obtain ⟨r, hr, h⟩ := ih (i + 1) k (by omega) (by omega) (by omega)
   refine ⟨r, hr, fun e => ⟨fun f hm => ?_, (h e).2⟩⟩
   rcases List.mem_cons.1 hm with rfl | hm
   ·
    omega
   ·
    exact (h e).1 f hm
theorem light_f (nm : ByteArray) (ns : List S40) (fs : List S42) (k : Nat) (hk : 1000 < k) : ∃ r, remontoirkeep_LightDef.f k nm ns fs = some r ∧
  (r = true → ns.length ≤ 70 ∧ fs.length ≤ 110 ∧ nm.size ≤ 60 ∧ (∀ n ∈ ns, n.f4.size ≤ 80) ∧ ∀ f ∈ fs, f.f4.size ≤ 80) := by
 obtain ⟨k, rfl⟩ : ∃ j, k = j + 1 := ⟨k - 1, by omega⟩
 unfold remontoirkeep_LightDef.f
 have hj : ∀ b, remontoirkeep_LightDef.j0 (k + 1) b nm ns fs = if b = true then some false else remontoirkeep_LightDef.l0 k 0 nm ns fs := fun b => by rw [remontoirkeep_LightDef.j0]
 by_cases h1 : (ns.length : Int) > 70
 ·
  rw [if_pos h1, hj, if_pos rfl]; exact ⟨false, rfl, fun h => by cases h⟩
 rw [if_neg h1]
 by_cases h2 : (fs.length : Int) > 110
 ·
  rw [if_pos h2, hj, if_pos rfl]; exact ⟨false, rfl, fun h => by cases h⟩
 rw [if_neg h2, hj]
 by_cases h3 : (nm.size : Int) > 60
 ·
  rw [decide_eq_true h3, if_pos rfl]; exact ⟨false, rfl, fun h => by cases h⟩
 rw [decide_eq_false h3, if_neg Bool.false_ne_true]
 obtain ⟨r, hr, h⟩ := light_l0 nm ns fs (by omega) (by omega) ns.length 0 k rfl (Nat.zero_le _) (by omega)
 exact ⟨r, hr, fun e => ⟨by omega, by omega, by omega, fun n hm => (h e).1 n (by rwa [List.drop_zero]), (h e).2⟩⟩
/-! ### What a line yields is small -/
theorem kindOf_in (l : List UInt8) : 0 ≤ kindOf l ∧ kindOf l ≤ 9 := by
 unfold kindOf
 repeat' split
 all_goals omega
theorem goL_err : ∀ (ls : List (List UInt8)) (i : Nat) (st : St) (e : Nat × Nat), goL i st ls = .error e → e.2 ≠ 0 := by
 intro ls
 induction ls with
 | nil => intro i st e h; cases h
 | cons l ls ih =>
  intro i st e h
  unfold goL at h
  split at h
  ·
   rename_i e2 hs
   have := stepL_err hs
   rw [← Except.error.inj h]
   show e2 ≠ 0
   omega
  ·
   exact ih _ _ _ h
theorem parseL1_err {l : List UInt8} {ls : List (List UInt8)} {e : Nat × Nat} (hp : parseL1 l ls = .error e) (h0 : e.2 = 0) : False := by
 unfold parseL1 at hp
 split at hp
 ·
  split at hp
  ·
   rename_i e1 hg
   have := Except.error.inj hp
   subst this
   exact goL_err _ _ _ _ hg h0
  ·
   cases hp
 ·
  rw [← Except.error.inj hp] at h0; cases h0
theorem parseT_err {t : List UInt8} {e : Nat × Nat} (hp : parseT t = .error e) : e.2 ≠ 0 := by
 intro h0
 unfold parseT at hp
 split at hp
 ·
  generalize (linesL t).1 = ls at hp
  match ls, hp with
  | [], hp => rw [← Except.error.inj hp] at h0; cases h0
  | l :: ls, hp => exact parseL1_err hp h0
 ·
  rename_i hl
  rw [← Except.error.inj hp] at h0; exact hl h0
/-! ### def.Print -/
/-- A definition that has a text. -/
def HasText (nm : ByteArray) (ns : List S40) (fs : List S42) : Prop := ns.length ≤ 60 ∧ fs.length ≤ 90 ∧ parseT (defText nm ns fs) = .ok (nm.data.toList, (ns, fs))
theorem write_f (nm : ByteArray) (ns : List S40) (fs : List S42) (h1 : nm.size ≤ 1000000) (h2 : ns.length ≤ 1000) (h3 : fs.length ≤ 1000) (h4 : ns.all okNode = true) (h5 : fs.all okFlow = true) : def_write.f nm ns fs = some (S (defText nm ns fs)) := by
 unfold def_write.f
 rw [if_pos ⟨h1, h2, h3, h4, h5⟩]
theorem print_yes (nm : ByteArray) (ns : List S40) (fs : List S42) (h1 : nm.size ≤ 1000000) (h4 : ns.all okNode = true) (h5 : fs.all okFlow = true) (h : HasText nm ns fs) (k : Nat) (hk : 13001 ≤ k) : def_Print.f k nm ns fs = some (S (defText nm ns fs), true) := by
 obtain ⟨k, rfl⟩ : ∃ j, k = j + 1 := ⟨k - 1, by omega⟩
 obtain ⟨ha, hb, hp⟩ := h
 unfold def_Print.f
 rw [if_neg (by omega), decide_eq_false (by omega), def_Print.j0, if_neg Bool.false_ne_true, write_f nm ns fs h1 (by omega) (by omega) h4 h5, Option.bind_some, parse_f _ k (by omega), hp, Option.bind_some]
 obtain ⟨r1, e1, i1⟩ := eqn_f ns ns (by omega) k (by omega)
 obtain ⟨r2, e2, i2⟩ := eqf_f fs fs (by omega) k (by omega)
 show (if ((0 : Int) = 0) then (if (S nm.data.toList).toList = nm.toList then (api_Node.f k ns ns).bind (fun t => if t = true then (api_Flow.f k fs fs).bind (fun t => if t = true then some (S (defText nm ns fs), true) else some (⟨#[]⟩, false)) else some (⟨#[]⟩, false)) else some (⟨#[]⟩, false)) else some (⟨#[]⟩, false)) = _
 rw [if_pos rfl, S_of, if_pos rfl, e1, Option.bind_some, if_pos (i1.mpr rfl), e2, Option.bind_some, if_pos (i2.mpr rfl)]
theorem print_no (nm : ByteArray) (ns : List S40) (fs : List S42) (h1 : nm.size ≤ 1000000) (h4 : ns.all okNode = true) (h5 : fs.all okFlow = true) (h : ¬ HasText nm ns fs) (k : Nat) (hk : 13001 ≤ k) : def_Print.f k nm ns fs = some (⟨#[]⟩, false) := by
 obtain ⟨k, rfl⟩ : ∃ j, k = j + 1 := ⟨k - 1, by omega⟩
 unfold def_Print.f
 by_cases ha : (ns.length : Int) > 60
 ·
  rw [if_pos ha, def_Print.j0, if_pos rfl]
 rw [if_neg ha]
 by_cases hb : (fs.length : Int) > 90
 ·
  rw [decide_eq_true hb, def_Print.j0, if_pos rfl]
 rw [decide_eq_false hb, def_Print.j0, if_neg Bool.false_ne_true, write_f nm ns fs h1 (by omega) (by omega) h4 h5, Option.bind_some, parse_f _ k (by omega), Option.bind_some]
 cases hp : parseT (defText nm ns fs) with
 | error e =>
  have he := parseT_err hp
  rw [if_neg (show ¬ (outP (.error e)).2.2.2.2 = 0 by show ¬ ((e.2 : Int) = 0); omega)]
 | ok v =>
  obtain ⟨nm', st⟩ := v
  have hps := parseT_ok hp
  show (if ((0 : Int) = 0) then (if (S nm').toList = nm.toList then (api_Node.f k st.1 ns).bind (fun t => if t = true then (api_Flow.f k st.2 fs).bind (fun t => if t = true then some (S (defText nm ns fs), true) else some (⟨#[]⟩, false)) else some (⟨#[]⟩, false)) else some (⟨#[]⟩, false)) else some (⟨#[]⟩, false)) = _
  rw [if_pos rfl]
  by_cases hnm : S nm' = nm
  ·
   rw [if_pos (by rw [hnm])]
   obtain ⟨r1, e1, i1⟩ := eqn_f st.1 ns (by omega) k (by omega)
   obtain ⟨r2, e2, i2⟩ := eqf_f st.2 fs (by omega) k (by omega)
   rw [e1, Option.bind_some]
   cases r1 with
   | false => rfl
   | true =>
    rw [if_pos rfl]
    rw [e2, Option.bind_some]
    cases r2 with
    | false => rfl
    | true =>
     exfalso
     apply h
     refine ⟨by omega, by omega, ?_⟩
     rw [hp, ← hnm, S_list]
     have g1 := i1.mp rfl
     have g2 := i2.mp rfl
     rw [← g1, ← g2]
  ·
   rw [if_neg (fun e => hnm ((text_eq _ _).mp e))]
end Go.Proofs.YtpalncojmknlbaaDoor.Pure

namespace Go.Proofs.YtpalncojmknlbaaDoor.Pure
open Go.RowKit Go.Proofs.YtpalncojmknlbaaDoorW.PrintWords Go.Proofs.YtpalncojmknlbaaDoor.Ext Go.Proofs.YtpalncojmknlbaaDoor.A Go.Proofs.YtpalncojmknlbaaDoor.Y Go.Proofs.YtpalncojmknlbaaDoor.Span
set_option linter.unusedVariables false
set_option linter.unusedSimpArgs false

def okB (c : UInt8) : Bool := 32 ≤ c.toNat && c.toNat ≤ 126
theorem okB10 : okB 10 = false := by decide
/-- The lines of a text are printable. -/
theorem lines_okB (t : List UInt8) : ∀ l ∈ (linesL t).1, l.all okB = true := by
 unfold linesL
 split
 ·
  intro l hl; cases hl
 ·
  split
  ·
   rename_i ha
   split
   ·
    intro l hl
    have h1 := pieces_all 10 okB okB10 t
    have h2 : t.all (fun d => d == 10 || okB d) = true := ha
    rw [h2] at h1
    exact List.all_eq_true.mp h1 l ((List.dropLast_sublist _).subset hl)
   ·
    intro l hl; cases hl
  ·
   intro l hl; cases hl
/-- The numbers of a definition are numbers of the machine's. -/
def Ints (ns : List S40) (fs : List S42) : Prop := (∀ n ∈ ns, inI n.f0 = true ∧ inI n.f1 = true ∧ inI n.f2 = true ∧ inI n.f3 = true) ∧ ∀ n ∈ fs, inI n.f0 = true ∧ inI n.f1 = true ∧ inI n.f2 = true ∧ inI n.f3 = true
theorem light_ok {ns : List S40} {fs : List S42} (hi : Ints ns fs) (h1 : ∀ n ∈ ns, n.f4.size ≤ 80) (h2 : ∀ n ∈ fs, n.f4.size ≤ 80) : ns.all okNode = true ∧ fs.all okFlow = true :=
 ⟨List.all_eq_true.mpr fun n hn => (okNode_iff n).mpr ⟨(hi.1 n hn).1, (hi.1 n hn).2.1, (hi.1 n hn).2.2.1, (hi.1 n hn).2.2.2, by have := h1 n hn; omega⟩,
  List.all_eq_true.mpr fun n hn => (okFlow_iff n).mpr ⟨(hi.2 n hn).1, (hi.2 n hn).2.1, (hi.2 n hn).2.2.1, (hi.2 n hn).2.2.2, by have := h2 n hn; omega⟩⟩
end Go.Proofs.YtpalncojmknlbaaDoor.Pure

namespace Go.Proofs.YtpalncojmknlbaaDoor.Pure
open Go.RowKit Go.Proofs.YtpalncojmknlbaaDoorW.PrintWords Go.Proofs.YtpalncojmknlbaaDoor.Ext Go.Proofs.YtpalncojmknlbaaDoor.Y Go.Proofs.YtpalncojmknlbaaDoor.Span
theorem ints_of {l1 : List S40} {l2 : List S42} (o1 : ∀ n ∈ l1, Row.okV n.f0 n.f1 n.f2 n.f3 n.f4) (o2 : ∀ n ∈ l2, Row.okV n.f0 n.f1 n.f2 n.f3 n.f4) : Ints l1 l2 := by
 refine ⟨fun n hn => ?_, fun n hn => ?_⟩
 ·
  obtain ⟨a, b, c, d, _⟩ := o1 n hn
  exact ⟨(inI_iff _).mpr (wf_i64 a), (inI_iff _).mpr (wf_i64 b), (inI_iff _).mpr (wf_i64 c), (inI_iff _).mpr (wf_i64 d)⟩
 ·
  obtain ⟨a, b, c, d, _⟩ := o2 n hn
  exact ⟨(inI_iff _).mpr (wf_i64 a), (inI_iff _).mpr (wf_i64 b), (inI_iff _).mpr (wf_i64 c), (inI_iff _).mpr (wf_i64 d)⟩
end Go.Proofs.YtpalncojmknlbaaDoor.Pure
