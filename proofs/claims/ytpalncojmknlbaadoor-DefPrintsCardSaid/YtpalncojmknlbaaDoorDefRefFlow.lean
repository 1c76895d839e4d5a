/- The reference's flow of a line's words says what the plain words say. -/
import Derived.Test.YtpalncojmknlbaaDoorDefRef
import Derived.Test.YtpalncojmknlbaaDoorYx12
namespace Go.Proofs.YtpalncojmknlbaaDoor.Pure
open Go.RowKit Go.Proofs.YtpalncojmknlbaaDoorW.PrintWords Go.Proofs.YtpalncojmknlbaaDoor.Ext Go.Proofs.YtpalncojmknlbaaDoor.A Go.Proofs.YtpalncojmknlbaaDoor.Y Go.Proofs.YtpalncojmknlbaaDoor.Span
set_option linter.unusedVariables false
set_option linter.unusedSimpArgs false

theorem rest_go (x : List UInt8) (q : List (List UInt8)) (hn : q.length ≤ 100000) (hj : (Lib.join (x :: q) [32]).length ≤ 100000) : ∀ (m i k : Nat), q.length + 1 - i = m → 1 ≤ i → i ≤ q.length + 1 → m < k →
  remontoirref17_rest.l0 k ((x :: q).map S) (S (x ++ Lib.joinTail [32] (q.take (i - 1)))) (i : Int) = some (S (Lib.join (x :: q) [32])) := by
 intro m
 induction m with
 | zero =>
  intro i k hm h1 hi hk
  obtain ⟨k, rfl⟩ : ∃ j, k = j + 1 := ⟨k - 1, by omega⟩
  rw [remontoirref17_rest.l0, List.length_map, List.length_cons, if_neg (by omega), List.take_of_length_le (by omega), Lib.join_cons]
 | succ m ih =>
  intro i k hm h1 hi hk
  obtain ⟨k, rfl⟩ : ∃ j, k = j + 1 := ⟨k - 1, by omega⟩
  have hlt : i - 1 < q.length := by omega
  have hr : rdOf ByteArray.empty ((x :: q).map S) (i : Int) = S q[i - 1] := by
   rw [rdS (x :: q) i (by rw [List.length_cons]; omega)]
   congr 1
   rw [List.getElem_cons]
   rw [dif_neg (by omega)]
  have hstep := Lib.joinTail_take_succ [32] q (i - 1) q[i - 1] (List.getElem?_eq_getElem hlt)
  have hle := Lib.joinTail_take_le [32] q (i - 1 + 1)
  rw [Lib.join_cons, List.length_append] at hj
  have hl1 := congrArg List.length hstep
  rw [List.length_append, List.length_append, List.length_singleton] at hl1
  have e32 : ∀ l : List UInt8, S l ++ (⟨#[32]⟩ : ByteArray) = S (l ++ [32]) := fun l => S_append l [32]
  rw [remontoirref17_rest.l0, List.length_map, List.length_cons, if_pos (by omega), if_pos (by omega), S_size, if_pos (by rw [List.length_append]; omega), if_pos (by omega), hr, e32, S_size, S_size, if_pos (by rw [List.length_append, List.length_append, List.length_singleton]; omega), S_append, wrapS i (by omega)]
  have hih := ih (i + 1) k (by omega) (by omega) (by omega) (by omega)
  rw [show i + 1 - 1 = i - 1 + 1 by omega, hstep] at hih
  rw [show x ++ Lib.joinTail [32] (q.take (i - 1)) ++ [32] ++ q[i - 1] = x ++ (Lib.joinTail [32] (q.take (i - 1)) ++ [32] ++ q[i - 1]) by simp only [List.append_assoc]]
  exact hih
theorem rest_f (x : List UInt8) (q : List (List UInt8)) (hn : q.length ≤ 100000) (hj : (Lib.join (x :: q) [32]).length ≤ 100000) (k : Nat) (hk : q.length + 2 < k) : remontoirref17_rest.f k ((x :: q).map S) = some (S (Lib.join (x :: q) [32])) := by
 obtain ⟨k, rfl⟩ : ∃ j, k = j + 1 := ⟨k - 1, by omega⟩
 unfold remontoirref17_rest.f
 have hx : x.length ≤ 100000 := by rw [Lib.join_cons, List.length_append] at hj; omega
 have hr : rdOf ByteArray.empty ((x :: q).map S) 0 = S x := rfl
 have h0 := rest_go x q hn hj q.length 1 k (by omega) (by omega) (by omega) (by omega)
 have e0 : (⟨#[]⟩ : ByteArray) ++ S x = S x := S_append [] x
 have hw1 : wrap64 ((0 : Int) + 1) = ((1 : Nat) : Int) := by unfold wrap64; omega
 rw [remontoirref17_rest.l0, List.length_map, List.length_cons, if_pos (by omega), if_neg (by omega), if_pos (by omega), hr, S_size, if_pos (by show 0 + x.length ≤ _; omega), e0, hw1]
 rw [show q.take (1 - 1) = [] from rfl] at h0
 rw [show x ++ Lib.joinTail [32] [] = x by simp [Lib.joinTail]] at h0
 exact h0
theorem rest_pieces (R : List UInt8) (h : R.length ≤ 6000) (k : Nat) (hk : R.length + 10 < k) : remontoirref17_rest.f k ((pieces 32 R).map S) = some (S R) := by
 have hl := (pieces_len 32 R).2
 have hj := join_pieces R
 have hne := pieces_ne 32 R
 generalize pieces 32 R = ps at *
 match ps, hne with
 | x :: q, _ =>
  rw [List.length_cons] at hl
  rw [rest_f x q (by omega) (by rw [hj]; omega) k (by omega), hj]
/-! ### Heads -/
theorem strip_cut (p w r : List UInt8) (hp : ∀ d ∈ p, d ≠ 32) (hw : ∀ d ∈ w, d ≠ 32) : stripP (p ++ [32]) (w ++ 32 :: r) = if w = p then some r else none := by
 by_cases h : w = p
 ·
  subst h
  rw [if_pos rfl, show w ++ 32 :: r = (w ++ [32]) ++ r by simp]
  exact stripP_hit _ _
 ·
  rw [if_neg h]
  cases hs : stripP (p ++ [32]) (w ++ 32 :: r) with
  | none => rfl
  | some r' =>
   exfalso
   have h1 := stripP_some hs
   have h2 := cutG_hit 32 w r hw
   rw [h1, show p ++ [32] ++ r' = p ++ 32 :: r' by simp, cutG_hit 32 p r' hp] at h2
   exact h (Prod.mk.inj h2).1.symm
theorem strip_none (p R : List UInt8) (hR : ∀ d ∈ R, d ≠ 32) : stripP (p ++ [32]) R = none := by
 cases hs : stripP (p ++ [32]) R with
 | none => rfl
 | some r =>
  exfalso
  have h1 := stripP_some hs
  exact hR 32 (by rw [h1]; simp) rfl
theorem no_if : ∀ d ∈ wIf, d ≠ 32 := by decide
theorem no_again : ∀ d ∈ wAgain, d ≠ 32 := by decide
theorem test_cut (w r : List UInt8) (hw : ∀ d ∈ w, d ≠ 32) : testL (w ++ 32 :: r) = if w = wIf then (if r = [] then none else some r) else none := by
 unfold testL
 rw [show ([105, 102, 32] : List UInt8) = wIf ++ [32] from rfl, strip_cut wIf w r no_if hw]
 split <;> rfl
theorem test_none (R : List UInt8) (hR : ∀ d ∈ R, d ≠ 32) : testL R = none := by
 unfold testL
 rw [show ([105, 102, 32] : List UInt8) = wIf ++ [32] from rfl, strip_none wIf R hR]; rfl
theorem again_cut (w r : List UInt8) (hw : ∀ d ∈ w, d ≠ 32) : stripP [97, 103, 97, 105, 110, 32] (w ++ 32 :: r) = if w = wAgain then some r else none := strip_cut wAgain w r no_again hw
theorem again_none (R : List UInt8) (hR : ∀ d ∈ R, d ≠ 32) : stripP [97, 103, 97, 105, 110, 32] R = none := strip_none wAgain R hR
/-- A flow's line behind the two numbers. -/
def tailR (a b : Int) (R : List UInt8) : Option S42 :=
 if R = wDefault then some ⟨a, b, 1, 0, S []⟩
 else match stripP [97, 103, 97, 105, 110, 32] R with
  | some r => (numO (cutG 32 r).1).bind fun m => (testL (cutG 32 r).2.1).bind fun g => some ⟨a, b, 3, m, S g⟩
  | none => (testL R).bind fun g => some ⟨a, b, 2, 0, S g⟩
def RFlowOk (o : Option S42) (r : Int × Int × Int × Int × ByteArray × Bool) : Prop := match o with
 | some f => r = (f.f0, f.f1, f.f2, f.f3, f.f4, true)
 | none => r.2.2.2.2.2 = false
theorem toB (l m : List UInt8) : ((S l).toList == m) = decide (l = m) := by
 rw [Lib.toList_data, S_list]
 by_cases h : l = m
 ·
  rw [decide_eq_true h, h, beq_self_eq_true]
 ·
  rw [decide_eq_false h, beq_eq_false_iff_ne.mpr h]
theorem flow_j4_no (k : Nat) (ps : List ByteArray) (a b c d : Int) (e : ByteArray) : remontoirref17_flow.j4 (k + 1) ps false a b c d e = some (a, b, c, d, e, false) := by
 rw [remontoirref17_flow.j4, if_neg Bool.false_ne_true]
theorem flow_j2 (w0 w1 w2 : List UInt8) (a b : Int) (R : List UInt8) (hR : R.length ≤ 6000) (k : Nat) (hk : R.length + 30 < k) (hne : ¬ (R = wDefault)) :
  ∃ r, remontoirref17_flow.j2 k ((w0 :: w1 :: w2 :: pieces 32 R).map S) false a b 0 0 ⟨#[]⟩ = some r ∧ RFlowOk (tailR a b R) r := by
 obtain ⟨k, rfl⟩ : ∃ j, k = j + 3 := ⟨k - 3, by omega⟩
 unfold tailR
 rw [if_neg hne, remontoirref17_flow.j2, if_neg Bool.false_ne_true]
 have hj3 : ∀ x ps, remontoirref17_flow.j3 (k + 2) ps x a b 0 0 ⟨#[]⟩ = _ := fun x ps => by rw [remontoirref17_flow.j3]
 rcases cutG_cases 32 R with ⟨h1, h2, h3⟩ | ⟨w3, R4, h1, rfl, h2, h3⟩
 ·
  rw [h3]
  rw [if_neg (show ¬ ((([w0, w1, w2, R].map S).length : Int) ≥ 5) by show ¬ ((4 : Int) ≥ 5); omega), hj3, if_neg Bool.false_ne_true, if_neg (show ¬ ((([w0, w1, w2, R].map S).length : Int) ≥ 7) by show ¬ ((4 : Int) ≥ 7); omega), flow_j4_no, again_none R h1, test_none R h1]
  exact ⟨_, rfl, rfl⟩
 ·
  rw [h3]
  have hl4 : R4.length ≤ 6000 := by rw [List.length_append, List.length_cons] at hR; omega
  have hl4' : R4.length + 1 ≤ (w3 ++ 32 :: R4).length := by rw [List.length_append, List.length_cons]; omega
  have hp4 : 1 ≤ (pieces 32 R4).length := List.length_pos_iff.mpr (pieces_ne 32 R4)
  have hlen : (((w0 :: w1 :: w2 :: w3 :: pieces 32 R4).map S).length : Int) = ((pieces 32 R4).length : Int) + 4 := by
   rw [List.length_map]; simp only [List.length_cons]; omega
  have hr3 : rdOf ByteArray.empty ((w0 :: w1 :: w2 :: w3 :: pieces 32 R4).map S) 3 = S w3 := rfl
  rw [hlen, if_pos (by omega), if_pos (by omega), hr3, toB, hj3, again_cut w3 R4 h1, test_cut w3 R4 h1]
  by_cases hif : w3 = [105, 102]
  ·
   have hif' : w3 = wIf := hif
   have hna : ¬ w3 = wAgain := by rw [hif]; decide
   rw [decide_eq_true hif, if_pos rfl, hlen, if_pos (by omega), if_neg hna, if_pos hif']
   have hd : ((w0 :: w1 :: w2 :: w3 :: pieces 32 R4).map S).drop 4 = (pieces 32 R4).map S := rfl
   rw [hd, rest_pieces R4 hl4 _ (by omega), Option.bind_some]
   by_cases h0 : R4 = []
   ·
    subst h0
    rw [if_pos rfl]
    exact ⟨_, rfl, (bne_eq_false_iff_eq.mpr ((empty_iff _).mpr rfl) : ((S []).toList != ([] : List UInt8)) = false)⟩
   ·
    rw [if_neg h0]
    refine ⟨_, rfl, ?_⟩
    show (a, b, (2 : Int), (0 : Int), S R4, ((S R4).toList != ([] : List UInt8))) = _
    have : ((S R4).toList != ([] : List UInt8)) = true := bne_iff_ne.mpr (fun e => h0 ((empty_iff _).mp e))
    rw [this]
  ·
   have hif' : ¬ w3 = wIf := hif
   rw [decide_eq_false hif, if_neg Bool.false_ne_true, if_neg hif', hlen]
   have no4 : ∃ r, remontoirref17_flow.j4 (k + 1) ((w0 :: w1 :: w2 :: w3 :: pieces 32 R4).map S) false a b 0 0 ⟨#[]⟩ = some r ∧ RFlowOk none r := ⟨_, flow_j4_no _ _ _ _ _ _ _, rfl⟩
   by_cases ha : w3 = [97, 103, 97, 105, 110]
   ·
    have ha' : w3 = wAgain := ha
    rw [if_pos ha']
    dsimp only
    rcases cutG_cases 32 R4 with ⟨g1, g2, g3⟩ | ⟨w4, R5, g1, rfl, g2, g3⟩
    ·
     rw [g2]
     dsimp only
     have ht : testL [] = none := rfl
     rw [if_neg (by rw [g3]; show ¬ (((1 : Nat) : Int) + 4 ≥ 7); omega), ht]
     have : ((numO R4).bind fun m => (none : Option (List UInt8)).bind fun g => some (⟨a, b, 3, m, S g⟩ : S42)) = none := by cases numO R4 <;> rfl
     rw [this]; exact no4
    ·
     rw [g2]
     dsimp only
     rw [g3] at no4 hr3 ⊢
     rcases cutG_cases 32 R5 with ⟨f1, f2, f3⟩ | ⟨w5, R6, f1, rfl, f2, f3⟩
     ·
      rw [f3] at no4 ⊢
      rw [if_neg (show ¬ ((([w4, R5] : List (List UInt8)).length : Int) + 4 ≥ 7) by show ¬ (((2 : Nat) : Int) + 4 ≥ 7); omega), test_none R5 f1]
      have : ((numO w4).bind fun m => (none : Option (List UInt8)).bind fun g => some (⟨a, b, 3, m, S g⟩ : S42)) = none := by cases numO w4 <;> rfl
      rw [this]; exact no4
     ·
      rw [f3] at no4 hr3 ⊢
      have hp6 : 1 ≤ (pieces 32 R6).length := List.length_pos_iff.mpr (pieces_ne 32 R6)
      have hlen2 : (((w4 :: w5 :: pieces 32 R6).length : Nat) : Int) = ((pieces 32 R6).length : Int) + 2 := by simp only [List.length_cons]; omega
      have hr5 : rdOf ByteArray.empty ((w0 :: w1 :: w2 :: w3 :: w4 :: w5 :: pieces 32 R6).map S) 5 = S w5 := rfl
      have hr4 : rdOf ByteArray.empty ((w0 :: w1 :: w2 :: w3 :: w4 :: w5 :: pieces 32 R6).map S) 4 = S w4 := rfl
      have hl4a : w4.length + R6.length + 2 ≤ (w3 ++ 32 :: (w4 ++ 32 :: (w5 ++ 32 :: R6))).length := by simp only [List.length_append, List.length_cons]; omega
      rw [hlen2, if_pos (by omega), if_pos (by omega), hr3, if_pos ((toL _ _).mpr ha), if_pos (by omega), hr5, toB, test_cut w5 R6 f1]
      by_cases h5 : w5 = [105, 102]
      ·
       have h5' : w5 = wIf := h5
       rw [decide_eq_true h5, if_pos h5', remontoirref17_flow.j4, if_pos rfl]
       have hlen3 : (((w0 :: w1 :: w2 :: w3 :: w4 :: w5 :: pieces 32 R6).map S).length : Int) = ((pieces 32 R6).length : Int) + 6 := by
        rw [List.length_map]; simp only [List.length_cons]; omega
       have hd : ((w0 :: w1 :: w2 :: w3 :: w4 :: w5 :: pieces 32 R6).map S).drop 6 = (pieces 32 R6).map S := rfl
       rw [hlen3, if_pos (by omega), hr4, rnum_f w4 k (by omega), Option.bind_some, if_pos (by omega), hd, rest_pieces R6 (by omega) k (by omega), Option.bind_some]
       cases hm : numO w4 with
       | none => exact ⟨_, rfl, rfl⟩
       | some m =>
        by_cases h0 : R6 = []
        ·
         subst h0
         exact ⟨_, rfl, (bne_eq_false_iff_eq.mpr ((empty_iff _).mpr rfl) : ((S []).toList != ([] : List UInt8)) = false)⟩
        ·
         rw [if_neg h0]
         refine ⟨_, rfl, ?_⟩
         show (a, b, (3 : Int), m, S R6, ((S R6).toList != ([] : List UInt8))) = _
         have : ((S R6).toList != ([] : List UInt8)) = true := bne_iff_ne.mpr (fun e => h0 ((empty_iff _).mp e))
         rw [this]
      ·
       have h5' : ¬ w5 = wIf := h5
       rw [decide_eq_false h5, if_neg h5']
       have : ((numO w4).bind fun m => (none : Option (List UInt8)).bind fun g => some (⟨a, b, 3, m, S g⟩ : S42)) = none := by cases numO w4 <;> rfl
       rw [this]; exact no4
   ·
    have ha' : ¬ w3 = wAgain := ha
    rw [if_neg ha']
    dsimp only [Option.bind_none]
    by_cases h7 : ((pieces 32 R4).length : Int) + 4 ≥ 7
    ·
     rw [if_pos h7, if_pos (by omega), hr3, if_neg (fun e => ha ((toL _ _).mp e))]
     exact no4
    ·
     rw [if_neg h7]
     exact no4
theorem rflow_f (line : List UInt8) (hl : line.length ≤ 6000) (k : Nat) (hk : line.length + 60 < k) :
  ∃ r, remontoirref17_flow.f k ((pieces 32 line).map S) = some r ∧ RFlowOk (if (cutG 32 line).1 = wFlow then flowR (cutG 32 line).2.1 else none) r := by
 obtain ⟨k, rfl⟩ : ∃ j, k = j + 3 := ⟨k - 3, by omega⟩
 unfold remontoirref17_flow.f flowR
 have hj0 : ∀ x ps, remontoirref17_flow.j0 (k + 3) ps x 0 0 0 0 ⟨#[]⟩ = _ := fun x ps => by rw [remontoirref17_flow.j0]
 have nb : ∀ (o : Option Int) (f : Int → Option S42), (∀ x, f x = none) → o.bind f = none := fun o f h => by cases o with
  | none => rfl
  | some x => exact h x
 rcases cutG_cases 32 line with ⟨h1, h2, h3⟩ | ⟨w0, R1, h1, rfl, h2, h3⟩
 ·
  rw [h3, h2]
  rw [if_pos (show ((([line].map S).length : Nat) : Int) < 3 by show ((1 : Int) < 3); omega), hj0, if_pos rfl]
  dsimp only
  have : (numO (cutG 32 ([] : List UInt8)).1) = none := rfl
  rw [this]
  refine ⟨_, rfl, ?_⟩
  split <;> rfl
 rw [h3, h2]
 dsimp only
 have hl1 : R1.length + w0.length + 1 ≤ 6000 := by rw [List.length_append, List.length_cons] at hl; omega
 have hlk : R1.length + w0.length + 1 + 57 < k := by rw [List.length_append, List.length_cons] at hk; omega
 rcases cutG_cases 32 R1 with ⟨g1, g2, g3⟩ | ⟨w1, R2, g1, rfl, g2, g3⟩
 ·
  rw [g3, g2]
  rw [if_pos (show ((([w0, R1].map S).length : Nat) : Int) < 3 by show ((2 : Int) < 3); omega), hj0, if_pos rfl]
  dsimp only
  refine ⟨_, rfl, ?_⟩
  have q : ∀ X : Option S42, X = none → RFlowOk (if w0 = wFlow then X else none) (0, 0, 0, 0, ⟨#[]⟩, false) := by
   rintro X rfl
   split <;> rfl
  exact q _ (nb _ _ (fun _ => rfl))
 rw [g3, g2]
 dsimp only
 have hl2 : w1.length + R2.length + 2 ≤ 6000 ∧ w1.length + R2.length + 59 < k := by
  rw [List.length_append, List.length_cons] at hl1 hlk; omega
 have hr0 : rdOf ByteArray.empty ((w0 :: w1 :: pieces 32 R2).map S) 0 = S w0 := rfl
 have hr1 : rdOf ByteArray.empty ((w0 :: w1 :: pieces 32 R2).map S) 1 = S w1 := rfl
 have hp2 : 1 ≤ (pieces 32 R2).length := List.length_pos_iff.mpr (pieces_ne 32 R2)
 have hlen : (((w0 :: w1 :: pieces 32 R2).map S).length : Int) = ((pieces 32 R2).length : Int) + 2 := by
  rw [List.length_map]; simp only [List.length_cons]; omega
 rw [hlen, if_neg (by omega), if_pos (by omega), hr0]
 by_cases hf : w0 = [102, 108, 111, 119]
 case neg =>
  have hb : ((S w0).toList != ([102, 108, 111, 119] : List UInt8)) = true := bne_iff_ne.mpr (fun e => hf ((toL _ _).mp e))
  rw [hb, hj0, if_pos rfl, if_neg (show ¬ w0 = wFlow from hf)]
  exact ⟨_, rfl, rfl⟩
 have hb : ((S w0).toList != ([102, 108, 111, 119] : List UInt8)) = false := bne_eq_false_iff_eq.mpr ((toL _ _).mpr hf)
 have hr2 : ∀ (w2 : List UInt8) (q : List (List UInt8)), pieces 32 R2 = w2 :: q → rdOf ByteArray.empty ((w0 :: w1 :: pieces 32 R2).map S) 2 = S w2 := fun w2 q e => by rw [e]; rfl
 have hw2 : pieces 32 R2 = (cutG 32 R2).1 :: (pieces 32 R2).tail := by
  rcases cutG_cases 32 R2 with ⟨_, e1, e2⟩ | ⟨_, _, _, _, e1, e2⟩ <;> (rw [e1, e2]; rfl)
 have hc2 := (cut_len 32 R2).1
 rw [hb, hj0, if_neg Bool.false_ne_true, hlen, if_pos (by omega), hr1, rnum_f w1 _ (by omega), Option.bind_some, if_pos (by omega), hr2 _ _ hw2, rnum_f _ _ (by omega), Option.bind_some, if_pos (show w0 = wFlow from hf)]
 have hj1 : ∀ x ps a b, remontoirref17_flow.j1 (k + 2) ps x a b 0 0 ⟨#[]⟩ = _ := fun x ps a b => by rw [remontoirref17_flow.j1]
 cases ha : numO w1 with
 | none =>
  dsimp only
  rw [if_neg Bool.false_ne_true, hj1, if_pos rfl]
  exact ⟨_, rfl, rfl⟩
 | some a =>
  dsimp only
  rw [if_pos rfl]
  cases hbn : numO (cutG 32 R2).1 with
  | none =>
   dsimp only
   rw [show (!false) = true from rfl, hj1, if_pos rfl]
   exact ⟨_, rfl, rfl⟩
  | some b =>
   dsimp only
   rw [show (!true) = false from rfl, hj1, if_neg Bool.false_ne_true, hlen, Option.bind_some, Option.bind_some]
   rcases cutG_cases 32 R2 with ⟨f1, f2, f3⟩ | ⟨w2, R3, f1, rfl, f2, f3⟩
   ·
    rw [f3, f2, if_pos (show (((([R2] : List (List UInt8)).length : Nat) : Int) + 2 = 3) from rfl)]
    exact ⟨_, rfl, rfl⟩
   ·
    have hR3 : R3.length ≤ 6000 ∧ R3.length + 35 < k := by
     have := hl2; rw [List.length_append, List.length_cons] at this; omega
    rw [f3, f2]
    dsimp only
    have hp3 : 1 ≤ (pieces 32 R3).length := List.length_pos_iff.mpr (pieces_ne 32 R3)
    have hlen3 : (((w2 :: pieces 32 R3).length : Nat) : Int) + 2 = ((pieces 32 R3).length : Int) + 3 := by rw [List.length_cons]; omega
    rw [hlen3, if_neg (by omega), if_neg (show ¬ (true = false) by decide)]
    have hr3 : ∀ (x : List UInt8) (q : List (List UInt8)), pieces 32 R3 = x :: q → rdOf ByteArray.empty ((w0 :: w1 :: w2 :: pieces 32 R3).map S) 3 = S x := fun x q e => by rw [e]; rfl
    show ∃ r, _ = some r ∧ RFlowOk (tailR a b R3) r
    by_cases hd : R3 = wDefault
    ·
     have hp : pieces 32 R3 = [wDefault] := by rw [hd]; rfl
     have hd' : ((S wDefault).toList == ([100, 101, 102, 97, 117, 108, 116] : List UInt8)) = true := by rw [toB]; rfl
     rw [hp, if_pos (show ((([wDefault] : List (List UInt8)).length : Nat) : Int) + 3 = 4 from rfl), if_pos (show (3 : Int) < ((([wDefault] : List (List UInt8)).length : Nat) : Int) + 3 by show (3 : Int) < 1 + 3; omega)]
     have e3 := hr3 wDefault [] hp
     rw [hp] at e3
     rw [e3, hd', remontoirref17_flow.j2, if_pos rfl]
     unfold tailR
     rw [if_pos hd]
     exact ⟨_, rfl, rfl⟩
    ·
     by_cases h4 : ((pieces 32 R3).length : Int) + 3 = 4
     ·
      rw [if_pos h4, if_pos (by omega)]
      have hone : (pieces 32 R3).length = 1 := by omega
      have hx : pieces 32 R3 = [R3] := by
       rcases cutG_cases 32 R3 with ⟨_, _, e⟩ | ⟨x, y, _, rfl, _, e⟩
       ·
        exact e
       ·
        exfalso
        rw [e, List.length_cons] at hone
        have := List.length_pos_iff.mpr (pieces_ne 32 y)
        omega
      have e3 := hr3 R3 [] hx
      have hd' : ((S R3).toList == ([100, 101, 102, 97, 117, 108, 116] : List UInt8)) = false := by rw [toB]; exact decide_eq_false hd
      rw [e3, hd']
      exact flow_j2 w0 w1 w2 a b R3 hR3.1 _ (by omega) hd
     ·
      rw [if_neg h4]
      exact flow_j2 w0 w1 w2 a b R3 hR3.1 _ (by omega) hd
end Go.Proofs.YtpalncojmknlbaaDoor.Pure
