/- DefCuts: the first lines of a definition's text are a definition, too. -/
import Derived.Test.YtpalncojmknlbaaDoorDefRowLaws
import Derived.Test.YtpalncojmknlbaaDoorYx17
namespace Go.Proofs.YtpalncojmknlbaaDoor.Pure
open Go.RowKit Go.Proofs.YtpalncojmknlbaaDoorW.PrintWords Go.Proofs.YtpalncojmknlbaaDoor.Ext Go.Proofs.YtpalncojmknlbaaDoor.A Go.Proofs.YtpalncojmknlbaaDoor.Y Go.Proofs.YtpalncojmknlbaaDoor.Span
set_option linter.unusedVariables false
set_option linter.unusedSimpArgs false

theorem S_line (l : List UInt8) : S l ++ (⟨#[10]⟩ : ByteArray) = S (l ++ [10]) := S_append l [10]
theorem unl_take_succ (ls : List (List UInt8)) (i : Nat) (h : i < ls.length) : unl (ls.take (i + 1)) = unl (ls.take i) ++ (ls[i] ++ [10]) := by
  rw [List.take_succ_eq_append_getElem h, unl_append]
  unfold unl
  simp
theorem mem_unl {ls : List (List UInt8)} {l : List UInt8} (h : l ∈ ls) : l.length + 1 ≤ (unl ls).length := by
  induction ls with
  | nil => cases h
  | cons x ls ih =>
    rw [unl_cons, List.length_append, List.length_cons]
    rcases List.mem_cons.1 h with rfl | h
    · omega
    · have := ih h; omega
section
variable {nm : ByteArray} {l0 : List UInt8} {L : List (List UInt8)} {n1 n2 : List S40} {f1 f2 : List S42}
/-- The last part: the text without its first line is none. -/
theorem cuts_end (hok : ∀ l ∈ l0 :: L, l.all okB = true) (hlen : (unl (l0 :: L)).length ≤ 6000) (ns : List S40) (fs : List S42) (hg : goL 1 ([], []) L = .ok (ns, fs)) : parseT (unl L) = .error (1, 2) := by
  rw [unl_cons, List.length_append, List.length_cons] at hlen
  rw [parse_unl L (fun l hl => hok l (by simp [hl])) (by omega)]
  match L, hg with
  | [], _ => rfl
  | l :: L, hg =>
    rw [goL] at hg
    split at hg
    · cases hg
    · rename_i st1 hs
      exact parse_first (fun h => good_not_first hs h.1)
theorem cuts_l2 (hok : ∀ l ∈ l0 :: L, l.all okB = true) (hlen : (unl (l0 :: L)).length ≤ 6000) (m : Nat) (ns : List S40) (fs : List S42) (hg : goL 1 ([], []) (L.take m) = .ok (n1, f1)) (hn : f1.length ≤ 1000) (full : List (List UInt8)) (hf : full = l0 :: L) :
    ∀ j i k : Nat, f1.length - i = j → i ≤ f1.length → j + 13001 < k →
    remontoirlaw17_DefCuts.l2 k (full.map S) (S (unl (l0 :: L.take m))) (i : Int) nm ns (f1 ++ f2) nm n1 f1 = some true := by
  intro j
  induction j with
  | zero =>
    intro i k hj hi hk
    obtain ⟨k, rfl⟩ : ∃ j, k = j + 1 := ⟨k - 1, by omega⟩
    simp only [remontoirlaw17_DefCuts.l2]
    subst hf
    have hr : rdOf ByteArray.empty ((l0 :: L).map S) 0 = S l0 := rd_at ((l0 :: L).map S) 0 (by simp)
    rw [if_neg (by omega), if_pos (by simp), hr, S_size]
    have hl0 := mem_unl (l := l0) (ls := l0 :: L) (by simp)
    have hw : wrap64 ((l0.length : Int) + 1) = ((l0.length + 1 : Nat) : Int) := wrapS _ (by omega)
    have hsz : (S (unl (l0 :: L.take m))).size = l0.length + 1 + (unl (L.take m)).length := by rw [S_size, unl_cons, List.length_append, List.length_cons]; omega
    rw [hw, if_pos (by omega), hsz, if_pos (by omega), Int.toNat_natCast, ← hsz, S_from]
    have hd : (unl (l0 :: L.take m)).drop (l0.length + 1) = unl (L.take m) := by
      rw [unl_cons, ← List.drop_drop, List.drop_left, List.drop_succ_cons, List.drop_zero]
    rw [hd, parse_f _ k (by omega), Option.bind_some, wakes_ok k (by omega)]
    have hlen2 : (unl (l0 :: L.take m)).length ≤ 6000 := by
      have := unl_take_len (l0 :: L) (m + 1)
      rw [List.take_succ_cons] at this; omega
    rw [cuts_end (l0 := l0) (fun l hl => hok l (by
      rcases List.mem_cons.1 hl with rfl | hl
      · simp
      · exact List.mem_cons_of_mem _ (List.mem_of_mem_take hl))) hlen2 n1 f1 hg]
    rfl
  | succ j ih =>
    intro i k hj hi hk
    obtain ⟨k, rfl⟩ : ∃ j, k = j + 1 := ⟨k - 1, by omega⟩
    have h1 : i < f1.length := by omega
    have h2 : i < (f1 ++ f2).length := by rw [List.length_append]; omega
    simp only [remontoirlaw17_DefCuts.l2]
    rw [if_pos (by omega), if_pos (by omega), if_pos (by omega), rd42 f1 i h1, rd42 (f1 ++ f2) i h2, wrapS i (by omega), if_neg (fun h => (ne42 _ _).mp h (List.getElem_append_left h1).symm)]
    exact ih (i + 1) k (by omega) (by omega) (by omega)
theorem cuts_l1 (hok : ∀ l ∈ l0 :: L, l.all okB = true) (hlen : (unl (l0 :: L)).length ≤ 6000) (m : Nat) (hg : goL 1 ([], []) (L.take m) = .ok (n1, f1)) (hn : n1.length ≤ 1000) (hf1 : f1.length ≤ 1000) (full : List (List UInt8)) (hf : full = l0 :: L) :
    ∀ j i k : Nat, n1.length - i = j → i ≤ n1.length → j + 14010 < k →
    remontoirlaw17_DefCuts.l1 k (full.map S) (S (unl (l0 :: L.take m))) (i : Int) nm (n1 ++ n2) (f1 ++ f2) nm n1 f1 = some true := by
  intro j
  induction j with
  | zero =>
    intro i k hj hi hk
    obtain ⟨k, rfl⟩ : ∃ j, k = j + 1 := ⟨k - 1, by omega⟩
    simp only [remontoirlaw17_DefCuts.l1]
    rw [if_neg (by omega)]
    exact cuts_l2 hok hlen m (n1 ++ n2) (f1 ++ f2) hg hf1 full hf f1.length 0 k rfl (Nat.zero_le _) (by omega)
  | succ j ih =>
    intro i k hj hi hk
    obtain ⟨k, rfl⟩ : ∃ j, k = j + 1 := ⟨k - 1, by omega⟩
    have h1 : i < n1.length := by omega
    have h2 : i < (n1 ++ n2).length := by rw [List.length_append]; omega
    simp only [remontoirlaw17_DefCuts.l1]
    rw [if_pos (by omega), if_pos (by omega), if_pos (by omega), rd40 n1 i h1, rd40 (n1 ++ n2) i h2, wrapS i (by omega), if_neg (fun h => (ne40 _ _).mp h (List.getElem_append_left h1).symm)]
    exact ih (i + 1) k (by omega) (by omega) (by omega)
theorem cuts_l0 (hok : ∀ l ∈ l0 :: L, l.all okB = true) (hlen : (unl (l0 :: L)).length ≤ 6000) (hw : (cutG 32 l0).1 = wProcess) (hv : nameV (cutG 32 l0).2.1 = true) (hnm : S (cutG 32 l0).2.1 = nm) (m : Nat) (hm : m ≤ L.length) (hL : L.length ≤ 1000)
    (hg : goL 1 ([], []) (L.take m) = .ok (n1, f1)) (hnf : n1.length + f1.length = m) (hx : f1 ≠ [] → n2 = []) (hnn : (n1 ++ n2).length ≤ 1000) :
    ∀ j i k : Nat, m + 1 - i = j → i ≤ m + 1 → j + 15100 < k →
    remontoirlaw17_DefCuts.l0 k ((l0 :: L).map S) ((m + 1 : Nat) : Int) (S (unl ((l0 :: L).take i))) (i : Int) nm (n1 ++ n2) (f1 ++ f2) = some true := by
  intro j
  induction j with
  | zero =>
    intro i k hj hi hk
    obtain ⟨k, rfl⟩ : ∃ j, k = j + 1 := ⟨k - 1, by omega⟩
    obtain rfl : i = m + 1 := by omega
    simp only [remontoirlaw17_DefCuts.l0]
    have hlt := unl_take_len (l0 :: L) (m + 1)
    rw [if_neg (by omega), parse_f _ k (by omega), Option.bind_some, parse_unl _ (fun l hl => hok l (List.mem_of_mem_take hl)) (by omega), List.take_succ_cons, parse_take (nm := nm) hw hv _ hg]
    have hm1 : wrap64 (((m + 1 : Nat) : Int) - 1) = (m : Int) := by unfold wrap64; omega
    have hmn : (n1.length : Int) = mn (m : Int) ((n1 ++ n2).length : Int) := by
      unfold mn
      rw [List.length_append]
      by_cases he : f1 = []
      · rw [he, List.length_nil] at hnf
        split <;> omega
      · rw [hx he, List.length_nil]
        split <;> omega
    have hfl : (f1.length : Int) = wrap64 ((m : Int) - (n1.length : Int)) := by unfold wrap64; omega
    have hj2 : ∀ b, remontoirlaw17_DefCuts.j2 k ((l0 :: L).map S) (S (unl (l0 :: L.take m))) b nm (n1 ++ n2) (f1 ++ f2) nm n1 f1 = if b = true then some false else remontoirlaw17_DefCuts.l1 (k - 1) ((l0 :: L).map S) (S (unl (l0 :: L.take m))) 0 nm (n1 ++ n2) (f1 ++ f2) nm n1 f1 := by
      intro b
      obtain ⟨k', rfl⟩ : ∃ j, k = j + 1 := ⟨k - 1, by omega⟩
      rw [remontoirlaw17_DefCuts.j2]; rfl
    show (if ((0 : Int) = 0) then (if ((0 : Int) = 0) then (if (S (cutG 32 l0).2.1).toList = nm.toList then (if ((n1.length : Int) = mn (wrap64 (((m + 1 : Nat) : Int) - 1)) ((n1 ++ n2).length : Int)) then (remontoirlaw17_DefCuts.j2 k ((l0 :: L).map S) (S (unl (l0 :: L.take m))) ((f1.length : Int) != (wrap64 ((wrap64 (((m + 1 : Nat) : Int) - 1)) - (n1.length : Int)))) nm (n1 ++ n2) (f1 ++ f2) (S (cutG 32 l0).2.1) n1 f1) else _) else _) else _) else _) = _
    rw [if_pos rfl, if_pos rfl, hnm, if_pos rfl, hm1, if_pos hmn, ← hfl, bne_self_eq_false, hj2, if_neg Bool.false_ne_true]
    exact cuts_l1 hok hlen m hg (by rw [List.length_append] at hnn; omega) (by omega) _ rfl n1.length 0 (k - 1) rfl (Nat.zero_le _) (by rw [List.length_append] at hnn; omega)
  | succ j ih =>
    intro i k hj hi hk
    obtain ⟨k, rfl⟩ : ∃ j, k = j + 1 := ⟨k - 1, by omega⟩
    have h1 : i < (l0 :: L).length := by rw [List.length_cons]; omega
    simp only [remontoirlaw17_DefCuts.l0]
    have hr := rd_at ((l0 :: L).map S) i (by rw [List.length_map]; exact h1)
    rw [List.getElem_map] at hr
    have hmem := mem_unl (List.getElem_mem h1)
    have htl := unl_take_len (l0 :: L) i
    rw [if_pos (by omega), if_pos (by omega), List.length_map, if_pos (by omega), hr, S_size, if_pos (by omega), S_line, S_size, S_size, if_pos (by rw [List.length_append, List.length_singleton]; omega), S_append, ← unl_take_succ _ _ h1, wrapS i (by omega)]
    exact ih (i + 1) k (by omega) (by omega) (by omega)
end
theorem cuts (nm : ByteArray) (ns : List S40) (fs : List S42) (a : Int) (ha : 0 ≤ a ∧ a ≤ 255) (hi : Ints ns fs) (k : Nat) (hk : 19000 ≤ k) : remontoirlaw17_DefCuts.f (k + 1) nm ns fs a = some true := by
  unfold remontoirlaw17_DefCuts.f
  obtain ⟨r, hr, hl⟩ := light_f nm ns fs (k + 1) (by omega)
  rw [hr, Option.bind_some, wakes_ok _ (by omega)]
  cases r with
  | false => rfl
  | true =>
    obtain ⟨l1, l2, l3, l4, l5⟩ := hl rfl
    obtain ⟨o1, o2⟩ := light_ok hi l4 l5
    rw [if_pos rfl]
    by_cases ht : HasText nm ns fs
    · rw [print_yes nm ns fs (by omega) o1 o2 ht _ (by omega), Option.bind_some, if_pos rfl]
      obtain ⟨l0, L, e1, e2, e3, e4, e5, e6, e7, e8, e9⟩ := text_lines ht
      dsimp only
      rw [lines_f _ _ (by rw [← e2]; omega), e1]
      show (if (((0 : Nat) : Int) = 0) then remontoirlaw17_DefCuts.j0 (k + 1) a ((l0 :: L).map S) ((((l0 :: L).map S).length : Int) == 0) nm ns fs else remontoirlaw17_DefCuts.j0 (k + 1) a ((l0 :: L).map S) true nm ns fs) = _
      rw [if_pos (by omega), List.length_map, List.length_cons, beq_eq_false_iff_ne.mpr (by omega), remontoirlaw17_DefCuts.j0, if_neg Bool.false_ne_true, List.length_map, List.length_cons, if_neg (by omega)]
      have hwa : wrap64 a = a := by unfold wrap64; omega
      have hmod : wrap64 (1 + Int.tmod a ((L.length + 1 : Nat) : Int)) = ((a.toNat % (L.length + 1) + 1 : Nat) : Int) := by
        rw [Int.tmod_eq_emod_of_nonneg ha.1]
        have h1 : a % ((L.length + 1 : Nat) : Int) = ((a.toNat % (L.length + 1) : Nat) : Int) := by
          rw [Int.natCast_emod]; congr 1; omega
        have h2 := Nat.mod_lt a.toNat (show 0 < L.length + 1 by omega)
        rw [h1]; unfold wrap64; omega
      rw [hwa, hmod]
      have hm := Nat.mod_lt a.toNat (show 0 < L.length + 1 by omega)
      obtain ⟨n1, f1, n2, f2, g1, rfl, rfl, g4, g5⟩ := go_take e8 (a.toNat % (L.length + 1)) (by omega)
      exact cuts_l0 e3 e4 e5 e6 e7 _ (by omega) (by omega) g1 g4 g5 (by omega) _ 0 k rfl (Nat.zero_le _) (by omega)
    · rw [print_no nm ns fs (by omega) o1 o2 ht _ (by omega), Option.bind_some, if_neg Bool.false_ne_true]
      rfl
theorem cuts_walk (nm : ByteArray) (A1 : Option Addr) (c1 : Nat) (l1 : List S40) (A2 : Option Addr) (c2 : Nat) (l2 : List S42) (a : Int) (w : World) (hTab : Tab w) (hr1 : Kd.C k40 w A1 l1.length l1) (hc1 : l1.length ≤ c1) (hr2 : Kd.C k42 w A2 l2.length l2) (hc2 : l2.length ≤ c2) (o1 : ∀ n ∈ l1, Row.okV n.f0 n.f1 n.f2 n.f3 n.f4) (o2 : ∀ n ∈ l2, Row.okV n.f0 n.f1 n.f2 n.f3 n.f4) (ha : (Lit.int .u8 a).wf = true) :
    Calls Tryd.prog 5 #[.agg #[.string nm, .slice A1 l1.length c1, .slice A2 l2.length c2], .int .u8 a] w fun e w' => e = .returned (.bool true) ∧ Below w.heap.size w w' :=
  remontoirlaw17_DefCuts.calls _ nm A1 c1 l1 A2 c2 l2 a true w hTab hr1 hc1 hr2 hc2 rfl (cuts nm l1 l2 a (wf_u8 ha) (ints_of o1 o2) 19000 (Nat.le_refl _))
end Go.Proofs.YtpalncojmknlbaaDoor.Pure
