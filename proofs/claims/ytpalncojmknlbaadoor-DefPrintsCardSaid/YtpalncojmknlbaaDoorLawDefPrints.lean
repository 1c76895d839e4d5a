/- The law DefPrints: for every input the call returns true; each argument reads afterwards as it read before. The listed variables (tables and errors of the library) are tied to the program's text. -/
import Derived.Test.YtpalncojmknlbaaDoorDefRefFlow
import Derived.Test.YtpalncojmknlbaaDoorRefText
import Derived.Test.YtpalncojmknlbaaDoorYx14
import Derived.Test.YtpalncojmknlbaaDoorRowDef
import Derived.Test.YtpalncojmknlbaaDoorCards
import Derived.Test.YtpalncojmknlbaaDoorTie
import Derived.Test.YtpalncojmknlbaaDoorLaid
import Derived.WalkKit
import Derived.ProofKit
import Derived.OpenShut
import Derived.ShutString
import Derived.ChangeOld
import Derived.Below
import Derived.SizedLaws
import Derived.Deep.DeepHandedRow
import Derived.Deep.DeepWitnessRowRef
import Derived.Carry
namespace Go.Proofs.YtpalncojmknlbaaDoor.Pure
open Go.RowKit Go.Proofs.YtpalncojmknlbaaDoorW.PrintWords Go.Proofs.YtpalncojmknlbaaDoor.Ext Go.Proofs.YtpalncojmknlbaaDoor.A Go.Proofs.YtpalncojmknlbaaDoor.Y Go.Proofs.YtpalncojmknlbaaDoor.Span
set_option linter.unusedVariables false
set_option linter.unusedSimpArgs false

theorem node_not_flow {line : List UInt8} {n : S40} (h : nodeL line = some n) : (cutG 32 line).1 ≠ wFlow := by
 intro e
 unfold nodeL at h
 split at h
 ·
  rcases cutG_cases 32 line with ⟨_, e1, e2⟩ | ⟨a, b, _, _, e1, e2⟩
  ·
   rw [e1] at e
   rw [e2] at h
   have e' : line = wFlow := e
   rw [e'] at h
   change nodeT wFlow [] = some n at h
   unfold nodeT at h
   rw [if_pos (by decide)] at h
   cases h
  ·
   rw [e1] at e
   rw [e2] at h
   have e' : a = wFlow := e
   rw [e'] at h
   change nodeT wFlow _ = some n at h
   unfold nodeT at h
   rw [if_pos (by decide)] at h
   cases h
 ·
  cases h
theorem rgo_f (ls : List (List UInt8)) (hn : ls.length ≤ 10000) (hok : ∀ l ∈ ls, l.all okB = true) (hls : ∀ l ∈ ls, l.length ≤ 6000) (nm : ByteArray) : ∀ (m i k : Nat) (st : St), ls.length - i = m → 1 ≤ i → i ≤ ls.length → st.1.length ≤ i → st.2.length ≤ i → m + 12100 < k →
  remontoirref17_Parse.l0 k (ls.map S) (i : Int) ⟨#[]⟩ nm st.1 st.2 = some (outG nm (goL i st (ls.drop i))) := by
 intro m
 induction m with
 | zero =>
  intro i k st hm h1 hi _ _ hk
  obtain ⟨k, rfl⟩ : ∃ j, k = j + 1 := ⟨k - 1, by omega⟩
  rw [remontoirref17_Parse.l0, List.length_map, if_neg (by omega), List.drop_eq_nil_of_le (by omega)]; rfl
 | succ m ih =>
  intro i k st hm h1 hi hs1 hs2 hk
  obtain ⟨k, rfl⟩ : ∃ j, k = j + 1 := ⟨k - 1, by omega⟩
  have hlt : i < ls.length := by omega
  have hmem : ls[i] ∈ ls := List.getElem_mem hlt
  have hll := hls _ hmem
  obtain ⟨r, hr, hro⟩ := rnode_f ls[i] (hok _ hmem) hll k (by omega)
  obtain ⟨q, hq, hqo⟩ := rflow_f ls[i] hll k (by omega)
  rw [remontoirref17_Parse.l0, List.length_map, if_pos (by omega), if_pos (by omega), rdS ls i hlt, rcut_f _ (by omega) k (by omega), Option.bind_some, hr, Option.bind_some, wrapS i (by omega), List.drop_eq_getElem_cons hlt, goL]
  cases hnl : nodeL ls[i] with
  | some n =>
   rw [hnl] at hro
   have hro' : r = (n.f0, n.f1, n.f2, n.f3, n.f4, true) := hro
   subst hro'
   have hst : stepL st ls[i] = if 60 ≤ st.1.length then .error 15 else if 0 < st.2.length then .error 2 else .ok (st.1 ++ [n], st.2) := by
    unfold stepL
    rw [if_neg (node_not_flow hnl), hnl]
   rw [hst, if_pos rfl]
   by_cases h6 : 60 ≤ st.1.length
   ·
    rw [if_pos (by omega), if_pos h6]; rfl
   ·
    rw [if_neg (by omega), if_neg h6]
    by_cases h0 : 0 < st.2.length
    ·
     rw [if_pos (by omega), if_pos h0]; rfl
    ·
     rw [if_neg (by omega), if_neg h0, if_pos (by omega)]
     exact ih (i + 1) k (st.1 ++ [n], st.2) (by omega) (by omega) (by omega) (by show (st.1 ++ [n]).length ≤ i + 1; rw [List.length_append, List.length_singleton]; omega) (by show st.2.length ≤ i + 1; omega) (by omega)
  | none =>
   rw [hnl] at hro
   have hro' : r.2.2.2.2.2 = false := hro
   rw [if_neg (by rw [hro']; decide), hq, Option.bind_some]
   by_cases hw : (cutG 32 ls[i]).1 = wFlow
   ·
    rw [if_pos hw] at hqo
    cases hfl : flowR (cutG 32 ls[i]).2.1 with
    | some f =>
     rw [hfl] at hqo
     have hqo' : q = (f.f0, f.f1, f.f2, f.f3, f.f4, true) := hqo
     subst hqo'
     have hst : stepL st ls[i] = if 90 ≤ st.2.length then .error 15 else .ok (st.1, st.2 ++ [f]) := by
      unfold stepL
      rw [if_pos hw, hfl]
     rw [hst, if_pos rfl]
     by_cases h9 : 90 ≤ st.2.length
     ·
      rw [if_pos (by omega), if_pos h9]; rfl
     ·
      rw [if_neg (by omega), if_neg h9, if_pos (by omega)]
      exact ih (i + 1) k (st.1, st.2 ++ [f]) (by omega) (by omega) (by omega) (by show st.1.length ≤ i + 1; omega) (by show (st.2 ++ [f]).length ≤ i + 1; rw [List.length_append, List.length_singleton]; omega) (by omega)
    | none =>
     rw [hfl] at hqo
     have hqo' : q.2.2.2.2.2 = false := hqo
     have hst : stepL st ls[i] = .error 2 := by
      unfold stepL
      rw [if_pos hw, hfl]
     rw [hst, if_neg (by rw [hqo']; decide)]; rfl
   ·
    rw [if_neg hw] at hqo
    have hqo' : q.2.2.2.2.2 = false := hqo
    have hst : stepL st ls[i] = .error 2 := by
     unfold stepL
     rw [if_neg hw, hnl]
    rw [hst, if_neg (by rw [hqo']; decide)]; rfl
theorem name_no32 {w : List UInt8} (h : nameV w = true) : ∀ d ∈ w, d ≠ 32 := by
 intro d hd e
 unfold nameV at h
 rw [Bool.and_eq_true] at h
 have := List.all_eq_true.mp h.1 d hd
 rw [e] at this
 exact absurd this (by decide)
theorem rparse_f (t : List UInt8) (k : Nat) (hk : 20000 ≤ k) : remontoirref17_Parse.f k (S t) = some (outP (parseT t)) := by
 unfold remontoirref17_Parse.f
 by_cases h6 : 6000 < t.length
 ·
  have hv : remontoirref16_Lines.f k (S t) = some ([], 15) := by
   unfold remontoirref16_Lines.f; rw [S_size, if_pos (by omega)]
  have hp : linesL t = ([], 15) := by unfold linesL; rw [if_pos h6]
  rw [hv, Option.bind_some]
  unfold parseT
  rw [hp]; rfl
 rw [ref_lines_f t k (by omega)]
 have hl := linesL_len t
 have hok := lines_okB t
 unfold parseT VL
 rw [Option.bind_some]
 dsimp only
 by_cases h0 : (linesL t).2 = 0
 ·
  rw [h0, if_pos rfl, if_pos (show ((0 : Nat) : Int) = 0 from rfl), List.length_map]
  generalize (linesL t).1 = ls at hl hok
  match ls, hl, hok with
  | [], _, _ => rfl
  | l :: ls, hl, hok =>
   rw [if_neg (by simp; omega), if_pos (by simp)]
   obtain ⟨k, rfl⟩ : ∃ j, k = j + 1 := ⟨k - 1, by omega⟩
   have hll := hl.1 l (by simp)
   have hlen := hl.2
   rw [List.length_cons] at hlen
   have hr0 : rdOf ByteArray.empty ((l :: ls).map S) 0 = S l := rfl
   have hj0 : ∀ (ps : List ByteArray) (b : Bool), remontoirref17_Parse.j0 (k + 1) ((l :: ls).map S) ps b ⟨#[]⟩ = _ := fun ps b => by rw [remontoirref17_Parse.j0]
   rw [hr0, rcut_f l (by omega) (k + 1) (by omega), Option.bind_some]
   show _ = some (outP (parseL1 l ls))
   unfold parseL1
   have bad : remontoirref17_Parse.j0 (k + 1) ((l :: ls).map S) ((pieces 32 l).map S) true ⟨#[]⟩ = some (outP (.error (1, 2))) := by rw [hj0, if_pos rfl]; rfl
   rcases cutG_cases 32 l with ⟨h1, h2, h3⟩ | ⟨w0, R, h1, hlR, h2, h3⟩
   ·
    rw [h3, h2]
    rw [h3] at bad
    have hn : ¬ (l = wProcess ∧ nameV ([] : List UInt8) = true) := fun h => by cases h.2
    dsimp only
    rw [if_neg hn, if_neg (show ¬ (((([l] : List (List UInt8)).map S).length : Int) = 2) by show ¬ ((1 : Int) = 2); omega)]
    exact bad
   ·
    rw [h3, h2]
    rw [h3] at bad
    dsimp only
    rcases cutG_cases 32 R with ⟨g1, g2, g3⟩ | ⟨a, b, g1, hR, g2, g3⟩
    ·
     rw [g3]
     rw [g3] at bad
     have hr0' : rdOf ByteArray.empty (([w0, R] : List (List UInt8)).map S) 0 = S w0 := rfl
     have hr1' : rdOf ByteArray.empty (([w0, R] : List (List UInt8)).map S) 1 = S R := rfl
     have hRl : R.length ≤ 6000 := by rw [hlR, List.length_append, List.length_cons] at hll; omega
     rw [if_pos (show (((([w0, R] : List (List UInt8)).map S).length : Int) = 2) from rfl), if_pos (show (0 : Int) < ((([w0, R] : List (List UInt8)).map S).length : Int) by show (0 : Int) < 2; decide), hr0']
     by_cases hw : w0 = wProcess
     ·
      rw [if_pos (show (S w0).toList = [112, 114, 111, 99, 101, 115, 115] from (toL _ _).mpr hw), if_pos (show (1 : Int) < ((([w0, R] : List (List UInt8)).map S).length : Int) by show (1 : Int) < 2; decide), hr1', rnm_f R (by omega) (k + 1) (by omega), Option.bind_some]
      by_cases hnm : nameV R = true
      ·
       rw [hnm, show (!true) = false from rfl, hj0, if_neg Bool.false_ne_true, if_pos (show (1 : Int) < ((([w0, R] : List (List UInt8)).map S).length : Int) by show (1 : Int) < 2; decide), hr1', if_pos ⟨hw, rfl⟩]
       have hg := rgo_f (l :: ls) (by rw [List.length_cons]; omega) hok (fun x hx => by have := hl.1 x hx; omega) (S R) ls.length 1 k ([], []) (by rw [List.length_cons]; omega) (Nat.le_refl _) (by rw [List.length_cons]; omega) (by simp) (by simp) (by omega)
       refine hg.trans ?_
       rw [List.drop_succ_cons, List.drop_zero]
       cases goL 1 ([], []) ls with
       | ok st => rfl
       | error e => rfl
      ·
       have hnm' : nameV R = false := Bool.eq_false_iff.mpr hnm
       rw [hnm', show (!false) = true from rfl, if_neg (fun h => by cases h.2)]
       exact bad
     ·
      rw [if_neg (show ¬ (S w0).toList = [112, 114, 111, 99, 101, 115, 115] from fun e => hw ((toL _ _).mp e)), if_neg (fun h => hw h.1)]
      exact bad
    ·
     have hp : 1 ≤ (pieces 32 b).length := List.length_pos_iff.mpr (pieces_ne 32 b)
     have hnm : ¬ (w0 = wProcess ∧ nameV R = true) := fun h => name_no32 h.2 32 (by rw [hR]; simp) rfl
     rw [if_neg hnm, if_neg (by rw [g3, List.length_map]; simp only [List.length_cons]; omega)]
     exact bad
 ·
  rw [if_neg (by omega), if_neg h0]
  rfl
/-! ### The text -/
theorem digN_itoa (n : Int) (h : 0 ≤ n) : digN n = Lib.itoa n := by
 unfold digN Lib.itoa
 rw [if_neg (by omega)]
/-- What a parsed node is like. -/
def Canon (n : S40) : Prop := 1 ≤ n.f0 ∧ n.f0 ≤ 9 ∧ 0 ≤ n.f1 ∧ 0 ≤ n.f2 ∧ 0 ≤ n.f3 ∧ ((n.f0 = 4 ∨ n.f0 = 8 ∨ n.f0 = 9) ↔ n.f4.data.toList ≠ [])
theorem nodeL_canon {line : List UInt8} {n : S40} (h : nodeL line = some n) : Canon n := by
 unfold nodeL at h
 split at h
 case isFalse => cases h
 rename_i hok
 generalize pieces 32 line = ps at h hok
 have hS : (S []).data.toList = ([] : List UInt8) := S_list []
 match ps, h, hok with
 | w :: l, h, hok =>
  rw [List.all_cons, Bool.and_eq_true] at hok
  change nodeT w l = some n at h
  unfold nodeT at h
  have hk := kindOf_in w
  by_cases h0 : kindOf w = 0
  ·
   rw [if_pos h0] at h; cases h
  rw [if_neg h0] at h
  by_cases h3 : kindOf w = 3
  ·
   rw [if_pos h3] at h
   match l, h with
   | [x, y], h =>
    obtain ⟨a, ha, h⟩ := Option.bind_eq_some_iff.mp h
    obtain ⟨b, hb, h⟩ := Option.bind_eq_some_iff.mp h
    obtain rfl := Option.some.inj h
    obtain ⟨_, a0, a9⟩ := numO_some ha
    obtain ⟨_, b0, b9⟩ := numO_some hb
    exact ⟨show (1 : Int) ≤ 3 by decide, show (3 : Int) ≤ 9 by decide, a0, b0, Int.le_refl _, ⟨fun h => by rcases h with h | h | h <;> exact absurd (show (3 : Int) = _ from h) (by decide), fun h => absurd hS h⟩⟩
  rw [if_neg h3] at h
  by_cases h4 : kindOf w = 4
  ·
   rw [if_pos h4] at h
   match l, h, hok with
   | [x, t], h, hok =>
    obtain ⟨a, ha, h⟩ := Option.bind_eq_some_iff.mp h
    obtain rfl := Option.some.inj h
    obtain ⟨_, a0, a9⟩ := numO_some ha
    have ht : okW t = true := List.all_eq_true.mp hok.2 t (by simp)
    exact ⟨show (1 : Int) ≤ 4 by decide, show (4 : Int) ≤ 9 by decide, a0, Int.le_refl _, Int.le_refl _, ⟨fun _ => by rw [S_list]; exact okW_ne ht, fun _ => Or.inl rfl⟩⟩
  rw [if_neg h4] at h
  by_cases h89 : kindOf w = 8 ∨ kindOf w = 9
  ·
   rw [if_pos h89] at h
   match l, h, hok with
   | [x, y, t], h, hok =>
    obtain ⟨a, ha, h⟩ := Option.bind_eq_some_iff.mp h
    obtain ⟨b, hb, h⟩ := Option.bind_eq_some_iff.mp h
    obtain rfl := Option.some.inj h
    obtain ⟨_, a0, a9⟩ := numO_some ha
    obtain ⟨_, b0, b9⟩ := numO_some hb
    have ht : okW t = true := List.all_eq_true.mp hok.2 t (by simp)
    exact ⟨by show 1 ≤ kindOf w; omega, hk.2, a0, Int.le_refl _, b0, ⟨fun _ => by rw [S_list]; exact okW_ne ht, fun _ => Or.inr h89⟩⟩
  rw [if_neg h89] at h
  match l, h with
  | [x], h =>
   obtain ⟨a, ha, h⟩ := Option.bind_eq_some_iff.mp h
   obtain rfl := Option.some.inj h
   obtain ⟨_, a0, a9⟩ := numO_some ha
   exact ⟨by show 1 ≤ kindOf w; omega, hk.2, a0, Int.le_refl _, Int.le_refl _, ⟨fun h => absurd h (fun h => h.elim h4 h89), fun h => absurd hS h⟩⟩
theorem rNode_eq (n : S40) (h : Canon n) : rNode n = nodeText n := by
 obtain ⟨k1, k9, a0, b0, c0, ht⟩ := h
 unfold rNode rNodeEnd nodeText nodeMore lineL
 rw [digN_itoa _ a0, digN_itoa _ b0, digN_itoa _ c0]
 refine congrArg (· ++ [10]) ?_
 by_cases h3 : n.f0 = 3
 ·
  have hn : n.f4.data.toList = [] := Classical.byContradiction fun hne => by
   have := ht.mpr hne; omega
  rw [if_pos h3, if_pos h3, if_pos hn, List.append_nil]
  show _ = Lib.join [Go.Proofs.YtpalncojmknlbaaDoor.Ext.kindWord n.f0, Lib.itoa n.f1, Lib.itoa n.f2] [32]
  rw [join_two, join_two, Lib.join_one]; simp
 rw [if_neg h3, if_neg h3]
 by_cases h4 : n.f0 = 4
 ·
  have hn : n.f4.data.toList ≠ [] := ht.mp (Or.inl h4)
  rw [if_pos h4, if_neg (by omega), if_neg hn, List.append_nil]
  show _ = Lib.join [Go.Proofs.YtpalncojmknlbaaDoor.Ext.kindWord n.f0, Lib.itoa n.f1, n.f4.data.toList] [32]
  rw [join_two, join_two, Lib.join_one]; simp
 rw [if_neg h4]
 by_cases h89 : n.f0 = 8 ∨ n.f0 = 9
 ·
  have hn : n.f4.data.toList ≠ [] := ht.mp (Or.inr h89)
  rw [if_pos h89, if_pos h89, if_neg hn]
  show _ = Lib.join [Go.Proofs.YtpalncojmknlbaaDoor.Ext.kindWord n.f0, Lib.itoa n.f1, Lib.itoa n.f3, n.f4.data.toList] [32]
  rw [join_two, join_two, join_two, Lib.join_one]; simp
 ·
  have hn : n.f4.data.toList = [] := Classical.byContradiction fun hne => by
   have := ht.mpr hne; omega
  rw [if_neg h89, if_neg h89, if_pos hn]
  show _ = Lib.join [Go.Proofs.YtpalncojmknlbaaDoor.Ext.kindWord n.f0, Lib.itoa n.f1] [32]
  rw [join_two, Lib.join_one]; simp
theorem flowR_nums {rest : List UInt8} {f : S42} (h : flowR rest = some f) : 0 ≤ f.f0 ∧ 0 ≤ f.f1 ∧ 0 ≤ f.f3 := by
 unfold flowR at h
 obtain ⟨a, ha, g1⟩ := Option.bind_eq_some_iff.mp h
 obtain ⟨b, hb, g2⟩ := Option.bind_eq_some_iff.mp g1
 clear h g1
 obtain ⟨_, a0, a9⟩ := numO_some ha
 obtain ⟨_, b0, b9⟩ := numO_some hb
 split at g2
 ·
  obtain rfl := Option.some.inj g2
  exact ⟨a0, b0, Int.le_refl _⟩
 ·
  split at g2
  ·
   obtain rfl := Option.some.inj g2
   exact ⟨a0, b0, Int.le_refl _⟩
  ·
   split at g2
   ·
    obtain ⟨m, hm, g3⟩ := Option.bind_eq_some_iff.mp g2
    obtain ⟨g, hg, g4⟩ := Option.bind_eq_some_iff.mp g3
    obtain rfl := Option.some.inj g4
    obtain ⟨_, m0, m9⟩ := numO_some hm
    exact ⟨a0, b0, m0⟩
   ·
    obtain ⟨g, hg, g4⟩ := Option.bind_eq_some_iff.mp g2
    obtain rfl := Option.some.inj g4
    exact ⟨a0, b0, Int.le_refl _⟩
theorem rFlow_eq (f : S42) (h : 0 ≤ f.f0 ∧ 0 ≤ f.f1 ∧ 0 ≤ f.f3) : rFlow f = flowText f := by
 unfold rFlow rFlowEnd flowText flowMore lineL
 rw [digN_itoa _ h.1, digN_itoa _ h.2.1, digN_itoa _ h.2.2]
 refine congrArg (· ++ [10]) ?_
 by_cases h1 : f.f2 = 1
 ·
  rw [if_pos h1, if_pos h1]
  show _ = Lib.join [wFlow, Lib.itoa f.f0, Lib.itoa f.f1, wDefault] [32]
  rw [join_two, join_two, join_two, Lib.join_one]; simp
 rw [if_neg h1, if_neg h1]
 by_cases h2 : f.f2 = 2
 ·
  rw [if_pos h2, if_pos h2]
  show _ = Lib.join [wFlow, Lib.itoa f.f0, Lib.itoa f.f1, wIf, f.f4.data.toList] [32]
  rw [join_two, join_two, join_two, join_two, Lib.join_one]; simp
 rw [if_neg h2, if_neg h2]
 by_cases h3 : f.f2 = 3
 ·
  rw [if_pos h3, if_pos h3]
  show _ = Lib.join [wFlow, Lib.itoa f.f0, Lib.itoa f.f1, wAgain, Lib.itoa f.f3, wIf, f.f4.data.toList] [32]
  rw [join_two, join_two, join_two, join_two, join_two, join_two, Lib.join_one]; simp
 ·
  rw [if_neg h3, if_neg h3, List.append_nil]
  show _ = Lib.join [wFlow, Lib.itoa f.f0, Lib.itoa f.f1] [32]
  rw [join_two, join_two, Lib.join_one]; simp
theorem goL_canon : ∀ (ls : List (List UInt8)) (i : Nat) (st st' : St), goL i st ls = .ok st' → (∀ n ∈ st.1, Canon n) → (∀ f ∈ st.2, 0 ≤ f.f0 ∧ 0 ≤ f.f1 ∧ 0 ≤ f.f3) → (∀ n ∈ st'.1, Canon n) ∧ ∀ f ∈ st'.2, 0 ≤ f.f0 ∧ 0 ≤ f.f1 ∧ 0 ≤ f.f3 := by
 intro ls
 induction ls with
 | nil => intro i st st' h h1 h2; obtain rfl := Except.ok.inj h; exact ⟨h1, h2⟩
 | cons l ls ih =>
  intro i st st' h h1 h2
  unfold goL at h
  split at h
  ·
   cases h
  ·
   rename_i st1 hst
   rcases stepL_ok hst with ⟨f, rfl, _, _, hf, _⟩ | ⟨n, rfl, _, _, hn, _⟩
   ·
    refine ih _ _ _ h h1 (fun x hx => ?_)
    rcases List.mem_append.1 hx with hx | hx
    ·
     exact h2 x hx
    ·
     rw [List.mem_singleton.1 hx]; exact flowR_nums hf
   ·
    refine ih _ _ _ h (fun x hx => ?_) h2
    rcases List.mem_append.1 hx with hx | hx
    ·
     exact h1 x hx
    ·
     rw [List.mem_singleton.1 hx]; exact nodeL_canon hn
theorem parseT_canon {t nm : List UInt8} {st : St} (h : parseT t = .ok (nm, st)) : (∀ n ∈ st.1, Canon n) ∧ ∀ f ∈ st.2, 0 ≤ f.f0 ∧ 0 ≤ f.f1 ∧ 0 ≤ f.f3 := by
 unfold parseT at h
 split at h
 ·
  generalize (linesL t).1 = ls at h
  match ls, h with
  | l :: ls, h =>
   change parseL1 l ls = .ok (nm, st) at h
   unfold parseL1 at h
   split at h
   ·
    split at h
    ·
     cases h
    ·
     rename_i st1 h1
     obtain ⟨_, rfl⟩ := Prod.mk.inj (Except.ok.inj h)
     exact goL_canon ls 1 _ _ h1 (fun _ h => by cases h) (fun _ h => by cases h)
   ·
    cases h
 ·
  cases h
theorem flat_congr {α : Type} (f g : α → List UInt8) (l : List α) (h : ∀ x ∈ l, f x = g x) : l.flatMap f = (l.map g).flatten := by
 induction l with
 | nil => rfl
 | cons x l ih => rw [List.flatMap_cons, h x (by simp), List.map_cons, List.flatten_cons, ih (fun y hy => h y (by simp [hy]))]
theorem refText_eq (nm : ByteArray) (ns : List S40) (fs : List S42) (h1 : ∀ n ∈ ns, Canon n) (h2 : ∀ f ∈ fs, 0 ≤ f.f0 ∧ 0 ≤ f.f1 ∧ 0 ≤ f.f3) : refText nm ns fs = defText nm ns fs := by
 have hk : ns.all kindIn = true := List.all_eq_true.mpr fun n hn => by
  obtain ⟨a, b, _⟩ := h1 n hn
  unfold kindIn
  rw [decide_eq_true a, decide_eq_true b]; rfl
 unfold refText defText rHead nodesText flowsText
 rw [if_pos hk, flat_congr rNode nodeText ns (fun n hn => rNode_eq n (h1 n hn)), flat_congr rFlow flowText fs (fun f hf => rFlow_eq f (h2 f hf))]
 unfold lineL
 rw [join_two, Lib.join_one]
/-! ### The reference's Print -/
theorem same_l1 (nm nm' : ByteArray) (ns ns' : List S40) (a b : List S42) (hl : a.length = b.length) (hn : a.length ≤ 1000) : ∀ m i k : Nat, a.length - i = m → i ≤ a.length → m < k →
  ∃ r, remontoirref17_Same.l1 k (i : Int) nm ns a nm' ns' b = some r ∧ (r = true ↔ a.drop i = b.drop i) := by
 intro m
 induction m with
 | zero =>
  intro i k hm hi hk
  obtain ⟨k, rfl⟩ : ∃ j, k = j + 1 := ⟨k - 1, by omega⟩
  simp only [remontoirref17_Same.l1]
  rw [if_neg (by omega), List.drop_eq_nil_of_le (by omega), List.drop_eq_nil_of_le (by omega)]
  exact ⟨true, rfl, by simp⟩
 | succ m ih =>
  intro i k hm hi hk
  obtain ⟨k, rfl⟩ : ∃ j, k = j + 1 := ⟨k - 1, by omega⟩
  have h1 : i < a.length := by omega
  have h2 : i < b.length := by omega
  simp only [remontoirref17_Same.l1]
  rw [if_pos (by omega), if_pos (by omega), if_pos (by omega), rd42 a i h1, rd42 b i h2, List.drop_eq_getElem_cons h1, List.drop_eq_getElem_cons h2, wrapS i (by omega)]
  by_cases hne : a[i] = b[i]
  ·
   rw [if_neg (fun h => (ne42 _ _).mp h hne)]
   obtain ⟨r, hr, hiff⟩ := ih (i + 1) k (by omega) (by omega) (by omega)
   exact ⟨r, hr, by rw [hiff, List.cons.injEq]; simp [hne]⟩
  ·
   rw [if_pos ((ne42 _ _).mpr hne)]
   exact ⟨false, rfl, ⟨fun h => absurd h Bool.false_ne_true, fun h => absurd (List.cons.inj h).1 hne⟩⟩
theorem same_l0 (nm nm' : ByteArray) (a b : List S40) (fs fs' : List S42) (hl : a.length = b.length) (hn : a.length ≤ 1000) (hlf : fs.length = fs'.length) (hf : fs.length ≤ 1000) : ∀ m i k : Nat, a.length - i = m → i ≤ a.length → m + 1001 < k →
  ∃ r, remontoirref17_Same.l0 k (i : Int) nm a fs nm' b fs' = some r ∧ (r = true ↔ a.drop i = b.drop i ∧ fs = fs') := by
 intro m
 induction m with
 | zero =>
  intro i k hm hi hk
  obtain ⟨k, rfl⟩ : ∃ j, k = j + 1 := ⟨k - 1, by omega⟩
  simp only [remontoirref17_Same.l0]
  obtain ⟨r, hr, hiff⟩ := same_l1 nm nm' a b fs fs' hlf hf fs.length 0 k rfl (Nat.zero_le _) (by omega)
  rw [if_neg (by omega), List.drop_eq_nil_of_le (by omega), List.drop_eq_nil_of_le (by omega)]
  exact ⟨r, hr, by rw [hiff, List.drop_zero, List.drop_zero]; simp⟩
 | succ m ih =>
  intro i k hm hi hk
  obtain ⟨k, rfl⟩ : ∃ j, k = j + 1 := ⟨k - 1, by omega⟩
  have h1 : i < a.length := by omega
  have h2 : i < b.length := by omega
  simp only [remontoirref17_Same.l0]
  rw [if_pos (by omega), if_pos (by omega), if_pos (by omega), rd40 a i h1, rd40 b i h2, List.drop_eq_getElem_cons h1, List.drop_eq_getElem_cons h2, wrapS i (by omega)]
  by_cases hne : a[i] = b[i]
  ·
   rw [if_neg (fun h => (ne40 _ _).mp h hne)]
   obtain ⟨r, hr, hiff⟩ := ih (i + 1) k (by omega) (by omega) (by omega)
   exact ⟨r, hr, by rw [hiff, List.cons.injEq]; simp [hne]⟩
  ·
   rw [if_pos ((ne40 _ _).mpr hne)]
   exact ⟨false, rfl, ⟨fun h => absurd h Bool.false_ne_true, fun h => absurd (List.cons.inj h.1).1 hne⟩⟩
theorem same_f (nm nm' : ByteArray) (a b : List S40) (fs fs' : List S42) (hn : a.length ≤ 1000) (hf : fs.length ≤ 1000) (k : Nat) (hk : 2100 < k) :
  ∃ r, remontoirref17_Same.f k nm a fs nm' b fs' = some r ∧ (r = true ↔ nm = nm' ∧ a = b ∧ fs = fs') := by
 obtain ⟨k, rfl⟩ : ∃ j, k = j + 1 := ⟨k - 1, by omega⟩
 unfold remontoirref17_Same.f
 have hj : ∀ x, remontoirref17_Same.j0 (k + 1) x nm a fs nm' b fs' = _ := fun x => by rw [remontoirref17_Same.j0]
 by_cases h1 : nm = nm'
 ·
  rw [if_pos (by rw [h1])]
  by_cases h2 : a.length = b.length
  ·
   rw [if_pos (by omega)]
   by_cases h3 : fs.length = fs'.length
   ·
    rw [bne_eq_false_iff_eq.mpr (by omega), hj, if_neg Bool.false_ne_true]
    obtain ⟨r, hr, hiff⟩ := same_l0 nm nm' a b fs fs' h2 hn h3 hf a.length 0 k rfl (Nat.zero_le _) (by omega)
    exact ⟨r, hr, by rw [hiff, List.drop_zero, List.drop_zero]; simp [h1]⟩
   ·
    rw [bne_iff_ne.mpr (show ((fs.length : Int) ≠ fs'.length) by omega), hj, if_pos rfl]
    exact ⟨false, rfl, ⟨fun h => absurd h Bool.false_ne_true, fun h => absurd (congrArg List.length h.2.2) h3⟩⟩
  ·
   rw [if_neg (by omega), hj, if_pos rfl]
   exact ⟨false, rfl, ⟨fun h => absurd h Bool.false_ne_true, fun h => absurd (congrArg List.length h.2.1) h2⟩⟩
 ·
  rw [if_neg (fun e => h1 ((text_eq _ _).mp e)), hj, if_pos rfl]
  exact ⟨false, rfl, ⟨fun h => absurd h Bool.false_ne_true, fun h => absurd h.1 h1⟩⟩
theorem text_f (nm : ByteArray) (ns : List S40) (fs : List S42) (k : Nat) (h1 : nm.size ≤ 1000000) (h2 : ns.length ≤ 1000) (h3 : fs.length ≤ 1000) (h4 : ns.all okNode = true) (h5 : fs.all okFlow = true) : remontoirref17_Text.f k nm ns fs = some (S (refText nm ns fs)) := by
 unfold remontoirref17_Text.f
 rw [if_pos ⟨h1, h2, h3, h4, h5⟩]
theorem rprint_yes (nm : ByteArray) (ns : List S40) (fs : List S42) (h1 : nm.size ≤ 1000000) (h4 : ns.all okNode = true) (h5 : fs.all okFlow = true) (h : HasText nm ns fs) (k : Nat) (hk : 20000 ≤ k) : remontoirref17_Print.f k nm ns fs = some (S (defText nm ns fs)) := by
 obtain ⟨ha, hb, hp⟩ := h
 have hc := parseT_canon hp
 have hn : ns.length ≤ 1000 := by omega
 have hf : fs.length ≤ 1000 := by omega
 unfold remontoirref17_Print.f
 rw [text_f nm ns fs k h1 hn hf h4 h5, Option.bind_some, refText_eq nm ns fs hc.1 hc.2, rparse_f _ k hk, hp, Option.bind_some]
 obtain ⟨r, hr, hiff⟩ := same_f nm nm ns ns fs fs hn hf k (by omega)
 have hr1 := hiff.mpr ⟨rfl, rfl, rfl⟩
 rw [if_pos (show (outP (.ok (nm.data.toList, (ns, fs)))).2.2.2.2 = 0 from rfl)]
 show ((remontoirref17_Same.f k (S nm.data.toList) ns fs nm ns fs).bind _) = _
 rw [S_of, hr, hr1, Option.bind_some, if_pos rfl]
theorem rprint_no (nm : ByteArray) (ns : List S40) (fs : List S42) (h1 : nm.size ≤ 1000000) (hn : ns.length ≤ 1000) (hf : fs.length ≤ 1000) (h4 : ns.all okNode = true) (h5 : fs.all okFlow = true) (h : ¬ HasText nm ns fs) (k : Nat) (hk : 20000 ≤ k) : remontoirref17_Print.f k nm ns fs = some ⟨#[]⟩ := by
 unfold remontoirref17_Print.f
 rw [text_f nm ns fs k h1 hn hf h4 h5, Option.bind_some, rparse_f _ k hk, Option.bind_some]
 cases hp : parseT (refText nm ns fs) with
 | error e =>
  have he := parseT_err hp
  rw [if_neg (show ¬ (outP (.error e)).2.2.2.2 = 0 by show ¬ ((e.2 : Int) = 0); omega)]
 | ok v =>
  obtain ⟨nm', st⟩ := v
  have ho := parseT_ok hp
  have hl1 : st.1.length ≤ 1000 := by have := ho.2.2.1; omega
  have hl2 : st.2.length ≤ 1000 := by have := ho.2.2.2.1; omega
  obtain ⟨r, hr, hiff⟩ := same_f (S nm') nm st.1 ns st.2 fs hl1 hl2 k (by omega)
  rw [if_pos (show (outP (.ok (nm', st))).2.2.2.2 = 0 from rfl)]
  show ((remontoirref17_Same.f k (S nm') st.1 st.2 nm ns fs).bind _) = _
  rw [hr, Option.bind_some]
  cases r with
  | false => rfl
  | true =>
   exfalso
   obtain ⟨g1, g2, g3⟩ := hiff.mp rfl
   apply h
   have ht := ho.1
   rw [g1, g2, g3] at ht
   refine ⟨by rw [← g2]; exact ho.2.2.1, by rw [← g3]; exact ho.2.2.2.1, ?_⟩
   rw [← ht, hp, ← g1, S_list, ← g2, ← g3]
theorem prints (nm : ByteArray) (ns : List S40) (fs : List S42) (hi : Ints ns fs) (k : Nat) (hk : 20000 ≤ k) : remontoirlaw17_DefPrints.f k nm ns fs = some true := by
 unfold remontoirlaw17_DefPrints.f
 obtain ⟨r, hr, hl⟩ := light_f nm ns fs k (by omega)
 rw [hr, Option.bind_some, wakes_ok k (by omega)]
 cases r with
 | false => rfl
 | true =>
  obtain ⟨l1, l2, l3, l4, l5⟩ := hl rfl
  obtain ⟨o1, o2⟩ := light_ok hi l4 l5
  rw [if_pos rfl]
  have a1 : nm.size ≤ 1000000 := by omega
  have a2 : ns.length ≤ 1000 := by omega
  have a3 : fs.length ≤ 1000 := by omega
  by_cases ht : HasText nm ns fs
  ·
   rw [print_yes nm ns fs a1 o1 o2 ht _ (by omega), Option.bind_some, rprint_yes nm ns fs a1 o1 o2 ht k hk, Option.bind_some]
   have hne : ((S (defText nm ns fs)).toList != ([] : List UInt8)) = true := bne_iff_ne.mpr (fun e => by
    have := (empty_iff _).mp e
    have h2 := congrArg List.length this
    unfold defText lineL at h2
    simp only [List.length_append, List.length_cons, List.length_nil] at h2
    omega)
   rw [if_pos rfl, hne]; rfl
  ·
   rw [print_no nm ns fs a1 o1 o2 ht _ (by omega), Option.bind_some, rprint_no nm ns fs a1 a2 a3 o1 o2 ht k hk, Option.bind_some]
   have hne : ((⟨#[]⟩ : ByteArray).toList != ([] : List UInt8)) = false := by rw [Lib.toList_data]; rfl
   rw [if_pos rfl, hne]; rfl
theorem prints_walk (nm : ByteArray) (A1 : Option Addr) (c1 : Nat) (l1 : List S40) (A2 : Option Addr) (c2 : Nat) (l2 : List S42) (w : World) (hTab : Tab w) (hr1 : Kd.C k40 w A1 l1.length l1) (hc1 : l1.length ≤ c1) (hr2 : Kd.C k42 w A2 l2.length l2) (hc2 : l2.length ≤ c2) (o1 : ∀ n ∈ l1, Row.okV n.f0 n.f1 n.f2 n.f3 n.f4) (o2 : ∀ n ∈ l2, Row.okV n.f0 n.f1 n.f2 n.f3 n.f4) :
  Calls Tryd.prog 3 #[.agg #[.string nm, .slice A1 l1.length c1, .slice A2 l2.length c2]] w fun e w' => e = .returned (.bool true) ∧ Below w.heap.size w w' :=
 remontoirlaw17_DefPrints.calls _ nm A1 c1 l1 A2 c2 l2 true w hTab hr1 hc1 hr2 hc2 rfl (prints nm l1 l2 (ints_of o1 o2) 20000 (Nat.le_refl _))
end Go.Proofs.YtpalncojmknlbaaDoor.Pure

namespace Go.Proofs.YtpalncojmknlbaaDoor.defPrints
open Go.ChangeShapes Go.WideShapes Go.ChangeAt Go.RowKit
open Go.ChangeMaps (open_string shut_string)
set_option linter.unusedVariables false
theorem laidOut : laidOutB Tryd.prog = true := by kernel_rfl
theorem reads (os : Os) {H : Type} (enc : TypeId × Value → H) : ∃ places, DataW.whole enc Tryd.prog ((Laid.laidWorld os).forCall (fun _ _ => 0) ⟨#[], #[.agg #[.string ⟨#[]⟩, .slice none 0 0, .slice none 0 0]], []⟩).memory Tryd.f3.params.toList Rows.defPrintsSpec.vars false (#[.agg #[.string ⟨#[]⟩, .slice none 0 0, .slice none 0 0]] : Array Value).toList 8 = some ([.agg [.lit (.string []), .nil, .nil]], [], places) := by
  have hw : (DataW.whole enc Tryd.prog ((Laid.laidWorld os).forCall (fun _ _ => 0) ⟨#[], #[.agg #[.string ⟨#[]⟩, .slice none 0 0, .slice none 0 0]], []⟩).memory Tryd.f3.params.toList Rows.defPrintsSpec.vars false (#[.agg #[.string ⟨#[]⟩, .slice none 0 0, .slice none 0 0]] : Array Value).toList 8).map (fun x => (x.1, x.2.1)) = some ([.agg [.lit (.string []), .nil, .nil]], []) := by kernel_rfl
  obtain ⟨⟨x1, x2, x3⟩, hx, hx1⟩ := Option.map_eq_some_iff.1 hw
  simp only [Prod.mk.injEq] at hx1
  obtain ⟨rfl, rfl⟩ := hx1
  exact ⟨x3, hx⟩
set_option maxRecDepth 100000 in
theorem lifted (os : Os) (started : os.Started) (H : Type) (enc : TypeId × Value → H) (F : Stop.Interp) :
    ReturnsInHanded {} Tryd.checked os 3 .any ((OpenSpec.ofChange Rows.defPrintsSpec).preRow enc Tryd.prog Tryd.f3 Rows.defPrintsRow.domain false Rows.defPrintsRow.laid) (((OpenSpec.ofChange Rows.defPrintsSpec).at F).post enc Tryd.prog Tryd.f3 false true false false) := by
  obtain ⟨places, hx⟩ := reads os enc
  refine returnsInHanded_of_row (C := Tryd.checked) (s := OpenSpec.ofChange Rows.defPrintsSpec) Laid.own started (by kernel_rfl) Tryd.func3
    (witness_row_atRef (enc := enc) (C := Tryd.checked) false (Laid.laidWorld os) #[.agg #[.string ⟨#[]⟩, .slice none 0 0, .slice none 0 0]] rfl (by kernel_rfl) (by kernel_rfl) (by kernel_rfl)
      (OpenSpec.preRow_of_cond 8 hx (by kernel_rfl) (fun k hk => by cases hk) (by kernel_rfl) (Laid.laid_met os _))) ?_
  intro W base args ds gs before hval0 hW _ _ hsz0 hL _ _
  have hTab := Laid.table hL
  have hsz : (DataW.weightsEach Tryd.prog (Tryd.f3.params.toList ++ Rows.defPrintsSpec.plain.varTypes Tryd.prog) (ds ++ gs)).all (· ≤ reachBytes) = true := hsz0
  have hval : ∀ (j : Nat) t v, Tryd.f3.params[j]? = some t → args[j]? = some v → Value.okWide Tryd.prog W .any base t v := hval0
  have hW' := hW
  obtain ⟨p, q, hA0, hV, rfl, hfz, hnd⟩ := hW
  have hA : DataW.TrodAll enc Tryd.prog W 0 (fun _ => true) true Tryd.f3.params.toList args.toList ds p := hA0
  rw [Tryd.params3] at hA hval hsz
  obtain ⟨v0, vs0, d0, ds0, p0, q0, hargs, rfl, rfl, h0, r0⟩ := trodAll_cons hA
  obtain ⟨rfl, rfl, rfl⟩ := trodAll_nil r0
  obtain rfl : args = #[v0] := by cases args; simp_all
  obtain ⟨rfl, rfl⟩ := trodVars_none hV
  have hk0 := h0
  obtain ⟨a0, A0, c0, l0, B0, e0, m0, rfl, w0r, w0c, w0s, w0e, w0, w0f⟩ := Row.open_def (hval 0 25 v0 rfl rfl) h0
  have hlt0 : ∀ x ∈ p0, x.block < W.heap.size := fun x hx => by simpa using hW'.lt x (by simp [hx])
  clear hA0 hval0 hsz0 hsz
  refine (Pure.prints_walk a0 A0 c0 l0 B0 e0 m0 W hTab w0r w0c w0s w0e w0 w0f).mono fun e W' ⟨he, bel⟩ => ?_
  subst he
  exact ⟨_, rfl, _, _, _, [], _, [], hW', trodAll_mk1 (shut_bool Tryd.underlying4 _), (trodAll_cons_mk (Below.trod laidOut (by kernel_rfl) (of_decide_eq_true (by kernel_rfl)) hk0 bel hlt0) trodAll_mk0), rfl, bel.frame _, fun h => by cases h⟩
theorem said : Rows.DefPrintsSaid :=
  OpenClaim.holds_of_cond 3 Tryd.f3 rfl rfl rfl rfl rfl rfl rfl ⟨rfl, rfl, rfl, rfl, rfl⟩ rfl rfl rfl rfl rfl (by kernel_rfl) Tryd.func3 (by kernel_rfl)
    (of_decide_eq_true (by kernel_rfl)) (by unfold Func.isWrapper; first | (rw [if_pos (by decide +kernel)]; kernel_rfl) | (rw [if_neg (by decide +kernel)]; exact ⟨rfl, rfl⟩))
    (fun os started H enc _ F => by rw [OpenClaim.pre_eq_preRow]; exact lifted os started H enc F)
theorem plain (f : FuncId) (fn : Func) (hf : Tryd.pinned.checked.prog.funcNamed Rows.defPrintsRow.func = some f) (hfn : Tryd.pinned.checked.prog.funcs[f]? = some fn) :
    true = Tryd.pinned.checked.prog.looks [] ∧ ∀ (j : Nat) t, fn.params[j]? = some t → Tryd.pinned.checked.prog.wantsStandIn t = false := by
  obtain rfl : f = 3 := Option.some.inj ((show Tryd.prog.funcNamed Rows.defPrintsRow.func = some 3 by kernel_rfl).symm.trans hf) |>.symm
  obtain rfl : fn = Tryd.f3 := (Option.some.inj (Tryd.func3.symm.trans hfn)).symm
  refine ⟨by kernel_rfl, fun j t ht => ?_⟩
  rw [Tryd.params3] at ht
  obtain rfl : t = 25 := by simpa using Array.mem_of_getElem? ht
  exact (show Tryd.prog.wantsStandIn 25 = false by kernel_rfl)
/-- The law's row, its variables tied to the program's text. -/
theorem card : Rows.DefPrintsCardSaid :=
  Claim7.holds_tied_plain_at .later [] _ _ _ _ said (fun _ h => by cases h) (by kernel_rfl) (fun _ h => by cases h) defPrints_row_tie rfl ⟨rfl, rfl⟩ (by kernel_rfl) rfl plain (by kernel_rfl)
end Go.Proofs.YtpalncojmknlbaaDoor.defPrints
namespace Go.Proofs.YtpalncojmknlbaaDoor
/-- The law's card, under a short name, for the claim. -/
theorem defPrints_card : Rows.DefPrintsCardSaid := defPrints.card
end Go.Proofs.YtpalncojmknlbaaDoor
