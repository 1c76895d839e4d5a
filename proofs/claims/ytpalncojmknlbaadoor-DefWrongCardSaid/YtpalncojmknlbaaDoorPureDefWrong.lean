/- DefWrong: a line of no form, put anywhere into a definition's text, is told with its place. -/
import Derived.Test.YtpalncojmknlbaaDoorDefRowLaws
import Derived.Test.YtpalncojmknlbaaDoorYx18
namespace Go.Proofs.YtpalncojmknlbaaDoor.Pure
open Go.RowKit Go.Proofs.YtpalncojmknlbaaDoorW.PrintWords Go.Proofs.YtpalncojmknlbaaDoor.Ext Go.Proofs.YtpalncojmknlbaaDoor.A Go.Proofs.YtpalncojmknlbaaDoor.Y Go.Proofs.YtpalncojmknlbaaDoor.Span
set_option linter.unusedVariables false
set_option linter.unusedSimpArgs false

theorem wS_line (l : List UInt8) : S l ++ (⟨#[10]⟩ : ByteArray) = S (l ++ [10]) := S_append l [10]
theorem wmem_unl {ls : List (List UInt8)} {l : List UInt8} (h : l ∈ ls) : l.length + 1 ≤ (unl ls).length := by
  induction ls with
  | nil => cases h
  | cons x ls ih =>
    rw [unl_cons, List.length_append, List.length_cons]
    rcases List.mem_cons.1 h with rfl | h
    · omega
    · have := ih h; omega
def procB : List UInt8 := [112, 114, 111, 99, 101, 115, 115, 32, 98]
def bads : List (List UInt8) := [[], [115, 116, 97, 114, 116], [115, 116, 97, 114, 116, 32, 120], [115, 116, 97, 114, 116, 32, 48, 32, 48], [116, 97, 115, 107, 32, 48], [116, 97, 115, 107, 32, 48, 32, 48, 49], [99, 97, 116, 99, 104, 32, 48], [115, 116, 111, 112, 32, 48, 32, 49], [115, 105, 100, 101, 32, 48, 32, 49, 32, 80, 84, 49, 83, 32, 120], [102, 108, 111, 119, 32, 49], [102, 108, 111, 119, 32, 49, 32, 120], [102, 108, 111, 119, 32, 49, 32, 50, 32, 105, 102], [102, 108, 111, 119, 32, 49, 32, 50, 32, 97, 103, 97, 105, 110, 32, 51], [102, 108, 111, 119, 32, 49, 32, 50, 32, 97, 103, 97, 105, 110, 32, 51, 32, 105, 102], [102, 108, 111, 119, 32, 49, 32, 50, 32, 68, 101, 102, 97, 117, 108, 116], [83, 116, 97, 114, 116, 32, 48], [115, 116, 97, 114, 116, 32, 32, 48], [32, 115, 116, 97, 114, 116, 32, 48], [115, 116, 97, 114, 116, 32, 48, 32], [112, 114, 111, 99, 101, 115, 115, 32, 98], [101, 110, 100, 32, 49, 48, 48, 48]]
theorem bads_bad : bads.all badB = true := by kernel_rfl
theorem bads_okB : bads.all (fun l => l.all okB) = true := by kernel_rfl
theorem bads_len : bads.all (fun l => decide (l.length ≤ 20)) = true := by kernel_rfl
theorem bads_first : bads.all (fun l => decide (l = procB) || !(decide ((cutG 32 l).1 = wProcess) && nameV (cutG 32 l).2.1)) = true := by kernel_rfl
/-- The lines of a text, one put in at a place. -/
def ins (ls : List (List UInt8)) (k : Nat) (b : List UInt8) : List (List UInt8) := ls.take k ++ b :: ls.drop k
theorem ins_len (ls : List (List UInt8)) (k : Nat) (b : List UInt8) : (unl (ins ls k b)).length = (unl ls).length + b.length + 1 := by
  unfold ins
  rw [unl_append, unl_cons, List.length_append, List.length_append, List.length_cons]
  conv => rhs; rw [← List.take_append_drop k ls]
  rw [unl_append, List.length_append]; omega
/-- What is written after i rounds of the law's loop. -/
def part (ls : List (List UInt8)) (k : Nat) (b : List UInt8) (i : Nat) : List (List UInt8) := if i ≤ k then ls.take i else ls.take k ++ b :: (ls.take i).drop k
theorem part_end (ls : List (List UInt8)) (k : Nat) (b : List UInt8) (hk : k ≤ ls.length) : part ls k b (ls.length + 1) = ins ls k b := by
  unfold part ins
  rw [if_neg (by omega), List.take_of_length_le (by omega : ls.length ≤ ls.length + 1)]
theorem part_lt (ls : List (List UInt8)) (k : Nat) (b : List UInt8) (i : Nat) (h : i < ls.length) (hne : i ≠ k) : part ls k b (i + 1) = part ls k b i ++ [ls[i]] := by
  unfold part
  by_cases hi : i < k
  · rw [if_pos (by omega), if_pos (by omega), List.take_succ_eq_append_getElem h]
  · rw [if_neg (by omega), if_neg (by omega), List.take_succ_eq_append_getElem h, List.drop_append_of_le_length (by rw [List.length_take]; omega), List.append_assoc]; rfl
theorem part_at (ls : List (List UInt8)) (k : Nat) (b : List UInt8) (h : k < ls.length) : part ls k b (k + 1) = part ls k b k ++ [b] ++ [ls[k]] := by
  unfold part
  rw [if_neg (by omega), if_pos (Nat.le_refl _), List.take_succ_eq_append_getElem h, List.drop_append_of_le_length (by rw [List.length_take]; omega), List.drop_of_length_le (by rw [List.length_take]; omega), List.append_assoc]; rfl
theorem part_last (ls : List (List UInt8)) (b : List UInt8) : part ls ls.length b (ls.length + 1) = part ls ls.length b ls.length ++ [b] := by
  unfold part
  rw [if_neg (by omega), if_pos (Nat.le_refl _), List.take_of_length_le (by omega : ls.length ≤ ls.length + 1), List.take_of_length_le (Nat.le_refl _), List.drop_of_length_le (Nat.le_refl _)]
theorem part_over (ls : List (List UInt8)) (k : Nat) (b : List UInt8) (i : Nat) (h : ls.length ≤ i) (hk : k < i) : part ls k b (i + 1) = part ls k b i := by
  unfold part
  rw [if_neg (by omega), if_neg (by omega), List.take_of_length_le h, List.take_of_length_le (by omega : ls.length ≤ i + 1)]
theorem unl_snoc (ls : List (List UInt8)) (x : List UInt8) : unl (ls ++ [x]) = unl ls ++ (x ++ [10]) := by
  rw [unl_append]; unfold unl; simp
theorem part_len (ls : List (List UInt8)) (k : Nat) (b : List UInt8) (i : Nat) : (unl (part ls k b i)).length ≤ (unl ls).length + b.length + 1 := by
  unfold part
  split
  · have := unl_take_len ls i; omega
  · rename_i h
    rw [unl_append, unl_cons, List.length_append, List.length_append, List.length_cons]
    have h1 : unl (ls.take i) = unl (ls.take k) ++ unl ((ls.take i).drop k) := by
      have : ls.take k = (ls.take i).take k := by rw [List.take_take, Nat.min_eq_left (by omega)]
      rw [this, ← unl_append, List.take_append_drop]
    have h2 := congrArg List.length h1
    rw [List.length_append] at h2
    have := unl_take_len ls i; omega
section
variable {nm : ByteArray} {l0 : List UInt8} {L : List (List UInt8)} {ns : List S40} {fs : List S42}
/-- With a wrong line put in. -/
theorem wrong_parse (hok : ∀ l ∈ l0 :: L, l.all okB = true) (hlen : (unl (l0 :: L)).length ≤ 5940) (hw : (cutG 32 l0).1 = wProcess) (hv : nameV (cutG 32 l0).2.1 = true) (hg : goL 1 ([], []) L = .ok (ns, fs)) (b : List UInt8) (hb : b ∈ bads) (k : Nat) (hk : k ≤ L.length + 1) :
    parseT (unl (ins (l0 :: L) k b)) = if k = 0 ∧ b = procB then .error (2, 2) else .error (k + 1, 2) := by
  have b1 := List.all_eq_true.mp bads_bad b hb
  have b2 := List.all_eq_true.mp bads_okB b hb
  have b3 := of_decide_eq_true (List.all_eq_true.mp bads_len b hb)
  have b4 := List.all_eq_true.mp bads_first b hb
  rw [parse_unl _ (fun l hl => by
    unfold ins at hl
    rcases List.mem_append.1 hl with hl | hl
    · exact hok l (List.mem_of_mem_take hl)
    rcases List.mem_cons.1 hl with rfl | hl
    · exact b2
    · exact hok l (List.mem_of_mem_drop hl)) (by rw [ins_len]; omega)]
  cases k with
  | zero =>
    unfold ins
    rw [List.take_zero, List.drop_zero, List.nil_append]
    by_cases hp : b = procB
    · rw [if_pos ⟨rfl, hp⟩, hp]
      have h0 : badB l0 = true := process_bad [] l0 hw
      exact parse_err (by decide) (by decide) _ (go_bad [] L ([], []) ([], []) 1 l0 rfl h0)
    · rw [if_neg (fun h => hp h.2)]
      rw [decide_eq_false hp, Bool.false_or, Bool.not_eq_true', Bool.and_eq_false_iff] at b4
      refine parse_first (fun h => ?_)
      rcases b4 with h' | h'
      · rw [decide_eq_false_iff_not] at h'; exact h' h.1
      · rw [h.2] at h'; cases h'
  | succ k =>
    rw [if_neg (fun h => by cases h.1)]
    unfold ins
    rw [List.take_succ_cons, List.drop_succ_cons, List.cons_append]
    obtain ⟨n1, f1, n2, f2, g1, _⟩ := go_take hg k (by omega)
    have := go_bad (L.take k) (L.drop k) ([], []) (n1, f1) 1 b g1 b1
    rw [List.length_take, Nat.min_eq_left (by omega)] at this
    rw [show 1 + k + 1 = k + 1 + 1 by omega] at this
    exact parse_err hw hv _ this
def lineE : List UInt8 := [101, 110, 100, 32, 48]
theorem nodeL_E : nodeL lineE = some ⟨2, 0, 0, 0, S []⟩ := by kernel_rfl
theorem wrong_end (hok : ∀ l ∈ l0 :: L, l.all okB = true) (hlen : (unl (l0 :: L)).length ≤ 5940) (hw : (cutG 32 l0).1 = wProcess) (hv : nameV (cutG 32 l0).2.1 = true) (hg : goL 1 ([], []) L = .ok (ns, fs)) (hf : 0 < fs.length) (hn : ns.length < 60) :
    parseT (unl (l0 :: L) ++ [101, 110, 100, 32, 48, 10]) = .error (L.length + 2, 2) := by
  have e : unl (l0 :: L) ++ [101, 110, 100, 32, 48, 10] = unl ((l0 :: L) ++ [lineE]) := by rw [unl_snoc]; rfl
  have hl := congrArg List.length e
  rw [List.length_append] at hl
  rw [e, parse_unl _ (fun l hl => by
    rcases List.mem_append.1 hl with hl | hl
    · exact hok l hl
    · rw [List.mem_singleton.1 hl]; decide) (by rw [← hl]; show _ + 6 ≤ _; omega), List.cons_append]
  refine parse_err hw hv _ ?_
  rw [goL_append, hg]
  dsimp only
  have hs : stepL (ns, fs) lineE = .error 2 := by
    unfold stepL
    rw [if_neg (by decide), nodeL_E]
    dsimp only
    rw [if_neg (by omega), if_pos hf]
  rw [goL, hs]
  show Except.error (1 + L.length + 1, 2) = _
  rw [show 1 + L.length + 1 = L.length + 2 by omega]
theorem wrong_j4 (hok : ∀ l ∈ l0 :: L, l.all okB = true) (hlen : (unl (l0 :: L)).length ≤ 5940) (hw : (cutG 32 l0).1 = wProcess) (hv : nameV (cutG 32 l0).2.1 = true) (hg : goL 1 ([], []) L = .ok (ns, fs)) (hL : L.length ≤ 1000) (k : Nat) (hk : 13010 ≤ k) :
    remontoirlaw17_DefWrong.j4 k (S (unl (l0 :: L))) ((l0 :: L).map S) false nm ns fs = some true := by
  obtain ⟨k, rfl⟩ : ∃ j, k = j + 2 := ⟨k - 2, by omega⟩
  rw [remontoirlaw17_DefWrong.j4, if_neg Bool.false_ne_true]
  by_cases hf : (fs.length : Int) > 0
  · rw [if_pos hf]
    by_cases hn : (ns.length : Int) < 60
    · rw [decide_eq_true hn, remontoirlaw17_DefWrong.j5, if_pos rfl, S_size, if_pos (by omega)]
      have e : (S (unl (l0 :: L)) ++ ⟨#[101, 110, 100, 32, 48, 10]⟩ : ByteArray) = S (unl (l0 :: L) ++ [101, 110, 100, 32, 48, 10]) := S_append _ _
      rw [e, parse_f _ k (by omega), Option.bind_some, wakes_ok k (by omega), wrong_end hok hlen hw hv hg (by omega) (by omega)]
      show (if (((L.length + 2 : Nat) : Int) = wrap64 ((((l0 :: L).map S).length : Int) + 1)) then (if ((2 : Int) = 2) then (some true).bind (fun t => some t) else some false) else some false) = _
      rw [List.length_map, List.length_cons, wrapS _ (by omega), if_pos rfl, if_pos rfl]; rfl
    · rw [decide_eq_false hn, remontoirlaw17_DefWrong.j5, if_neg Bool.false_ne_true, wakes_ok k (by omega)]; rfl
  · rw [if_neg hf, remontoirlaw17_DefWrong.j5, if_neg Bool.false_ne_true, wakes_ok k (by omega)]; rfl
theorem wrong_l0 (hok : ∀ l ∈ l0 :: L, l.all okB = true) (hlen : (unl (l0 :: L)).length ≤ 5940) (hw : (cutG 32 l0).1 = wProcess) (hv : nameV (cutG 32 l0).2.1 = true) (hg : goL 1 ([], []) L = .ok (ns, fs)) (hL : L.length ≤ 1000) (q c : Nat) (hq : q < 21) (hc : c ≤ L.length + 1) (a2 : Int) (h2 : Int.tmod (wrap64 a2) 21 = (q : Int)) :
    ∀ j i k : Nat, L.length + 2 - i = j → i ≤ L.length + 2 → j + 13020 < k →
    remontoirlaw17_DefWrong.l0 k a2 (S (unl (l0 :: L))) ((l0 :: L).map S) (bads.map S) (c : Int) (S (unl (part (l0 :: L) c (bads[q]'hq) i))) (i : Int) nm ns fs = some true := by
  have hbm : bads[q]'hq ∈ bads := List.getElem_mem hq
  have hbl := of_decide_eq_true (List.all_eq_true.mp bads_len _ hbm)
  have hrb : rdOf ByteArray.empty (bads.map S) (q : Int) = S (bads[q]'hq) := by rw [rd_at _ q (by rw [List.length_map]; exact hq), List.getElem_map]; rfl
  have hbn : ((bads.map S).length : Int) = 21 := rfl
  intro j
  induction j with
  | zero =>
    intro i k hj hi hk
    obtain ⟨k, rfl⟩ : ∃ j, k = j + 1 := ⟨k - 1, by omega⟩
    obtain rfl : i = (l0 :: L).length + 1 := by rw [List.length_cons]; omega
    simp only [remontoirlaw17_DefWrong.l0]
    rw [List.length_map, if_neg (by omega), part_end _ c _ (by rw [List.length_cons]; omega), parse_f _ k (by omega), Option.bind_some, wrong_parse hok hlen hw hv hg _ hbm c hc, hbn, h2, hrb]
    by_cases h0 : c = 0
    · rw [if_pos (by omega), if_neg (by decide), if_pos (by omega), if_pos (by omega)]
      by_cases hp : (bads[q]'hq) = procB
      · have hpt : ((S (bads[q]'hq)).toList == ([112, 114, 111, 99, 101, 115, 115, 32, 98] : List UInt8)) = true := by rw [Lib.toList_data, S_list, hp]; rfl
        rw [if_pos ⟨h0, hp⟩, hpt]
        show remontoirlaw17_DefWrong.j3 k (S (unl (l0 :: L))) ((l0 :: L).map S) (c : Int) 2 2 true nm ns fs ⟨#[]⟩ [] [] = _
        obtain ⟨k, rfl⟩ : ∃ j, k = j + 1 := ⟨k - 1, by omega⟩
        rw [remontoirlaw17_DefWrong.j3, if_pos rfl, if_pos rfl, if_pos rfl, wakes_ok k (by omega)]; rfl
      · have hpt : ((S (bads[q]'hq)).toList == ([112, 114, 111, 99, 101, 115, 115, 32, 98] : List UInt8)) = false := by rw [Lib.toList_data, S_list]; exact beq_eq_false_iff_ne.mpr hp
        rw [if_neg (fun h => hp h.2), hpt]
        show remontoirlaw17_DefWrong.j3 k (S (unl (l0 :: L))) ((l0 :: L).map S) (c : Int) ((c + 1 : Nat) : Int) 2 false nm ns fs ⟨#[]⟩ [] [] = _
        obtain ⟨k, rfl⟩ : ∃ j, k = j + 1 := ⟨k - 1, by omega⟩
        rw [remontoirlaw17_DefWrong.j3, if_neg Bool.false_ne_true, wrapS c (by omega), if_pos rfl, if_pos rfl, if_pos (show ((([] : List S40).length : Nat) : Int) = 0 from rfl), if_pos (show ((([] : List S42).length : Nat) : Int) = 0 from rfl), show ((⟨#[]⟩ : ByteArray).toList != ([] : List UInt8)) = false by rw [Lib.toList_data]; rfl]
        exact wrong_j4 hok hlen hw hv hg hL k (by omega)
    · rw [if_neg (by omega), if_neg (fun h => h0 h.1)]
      show remontoirlaw17_DefWrong.j3 k (S (unl (l0 :: L))) ((l0 :: L).map S) (c : Int) ((c + 1 : Nat) : Int) 2 false nm ns fs ⟨#[]⟩ [] [] = _
      obtain ⟨k, rfl⟩ : ∃ j, k = j + 1 := ⟨k - 1, by omega⟩
      rw [remontoirlaw17_DefWrong.j3, if_neg Bool.false_ne_true, wrapS c (by omega), if_pos rfl, if_pos rfl, if_pos (show ((([] : List S40).length : Nat) : Int) = 0 from rfl), if_pos (show ((([] : List S42).length : Nat) : Int) = 0 from rfl), show ((⟨#[]⟩ : ByteArray).toList != ([] : List UInt8)) = false by rw [Lib.toList_data]; rfl]
      exact wrong_j4 hok hlen hw hv hg hL k (by omega)
  | succ j ih =>
    intro i k hj hi hk
    obtain ⟨k, rfl⟩ : ∃ j, k = j + 1 := ⟨k - 1, by omega⟩
    have ih' := ih (i + 1) k (by omega) (by omega) (by omega)
    have hpl := part_len (l0 :: L) c (bads[q]'hq) i
    simp only [remontoirlaw17_DefWrong.l0]
    rw [List.length_map, List.length_cons, if_pos (by omega), hbn, h2, hrb, wrapS i (by omega), S_size, S_size, wS_line, S_size]
    by_cases hic : i = c
    · subst hic
      rw [if_pos rfl, if_neg (by decide), if_pos (by omega), if_pos (by omega), if_pos (by omega), if_pos (by simp only [List.length_append, List.length_cons, List.length_nil]; omega)]
      by_cases hil : i < L.length + 1
      · have h1 : i < (l0 :: L).length := by rw [List.length_cons]; omega
        have hr := rd_at ((l0 :: L).map S) i (by rw [List.length_map]; exact h1)
        rw [List.getElem_map] at hr
        have hmem := wmem_unl (List.getElem_mem h1)
        rw [if_pos (by omega), if_pos (by omega), hr, S_size, if_pos (by omega), wS_line, S_append, S_size, S_size, if_pos (by simp only [List.length_append, List.length_cons, List.length_nil]; omega), S_append, ← unl_snoc, ← unl_snoc, ← part_at _ _ _ h1]
        exact ih'
      · obtain rfl : i = L.length + 1 := by omega
        rw [if_neg (by omega), S_append, ← unl_snoc]
        have := part_last (l0 :: L) (bads[q]'hq)
        rw [List.length_cons] at this
        rw [← this]
        exact ih'
    · rw [if_neg (by omega)]
      by_cases hil : i < L.length + 1
      · have h1 : i < (l0 :: L).length := by rw [List.length_cons]; omega
        have hr := rd_at ((l0 :: L).map S) i (by rw [List.length_map]; exact h1)
        rw [List.getElem_map] at hr
        have hmem := wmem_unl (List.getElem_mem h1)
        rw [if_pos (by omega), if_pos (by omega), hr, S_size, if_pos (by omega), wS_line, S_size, if_pos (by simp only [List.length_append, List.length_cons, List.length_nil]; omega), S_append, ← unl_snoc, ← part_lt _ _ _ _ h1 hic]
        exact ih'
      · rw [if_neg (by omega), ← part_over (l0 :: L) c (bads[q]'hq) i (by rw [List.length_cons]; omega) (by omega)]
        exact ih'
end
theorem bads_eq : ([(⟨#[]⟩ : ByteArray), (⟨#[115, 116, 97, 114, 116]⟩ : ByteArray), (⟨#[115, 116, 97, 114, 116, 32, 120]⟩ : ByteArray), (⟨#[115, 116, 97, 114, 116, 32, 48, 32, 48]⟩ : ByteArray), (⟨#[116, 97, 115, 107, 32, 48]⟩ : ByteArray), (⟨#[116, 97, 115, 107, 32, 48, 32, 48, 49]⟩ : ByteArray), (⟨#[99, 97, 116, 99, 104, 32, 48]⟩ : ByteArray), (⟨#[115, 116, 111, 112, 32, 48, 32, 49]⟩ : ByteArray), (⟨#[115, 105, 100, 101, 32, 48, 32, 49, 32, 80, 84, 49, 83, 32, 120]⟩ : ByteArray), (⟨#[102, 108, 111, 119, 32, 49]⟩ : ByteArray), (⟨#[102, 108, 111, 119, 32, 49, 32, 120]⟩ : ByteArray), (⟨#[102, 108, 111, 119, 32, 49, 32, 50, 32, 105, 102]⟩ : ByteArray), (⟨#[102, 108, 111, 119, 32, 49, 32, 50, 32, 97, 103, 97, 105, 110, 32, 51]⟩ : ByteArray), (⟨#[102, 108, 111, 119, 32, 49, 32, 50, 32, 97, 103, 97, 105, 110, 32, 51, 32, 105, 102]⟩ : ByteArray), (⟨#[102, 108, 111, 119, 32, 49, 32, 50, 32, 68, 101, 102, 97, 117, 108, 116]⟩ : ByteArray), (⟨#[83, 116, 97, 114, 116, 32, 48]⟩ : ByteArray), (⟨#[115, 116, 97, 114, 116, 32, 32, 48]⟩ : ByteArray), (⟨#[32, 115, 116, 97, 114, 116, 32, 48]⟩ : ByteArray), (⟨#[115, 116, 97, 114, 116, 32, 48, 32]⟩ : ByteArray), (⟨#[112, 114, 111, 99, 101, 115, 115, 32, 98]⟩ : ByteArray), (⟨#[101, 110, 100, 32, 49, 48, 48, 48]⟩ : ByteArray)] : List ByteArray) = bads.map S := rfl
theorem wrong (nm : ByteArray) (ns : List S40) (fs : List S42) (a b : Int) (ha : 0 ≤ a ∧ a ≤ 255) (hb : 0 ≤ b ∧ b ≤ 255) (hi : Ints ns fs) (k : Nat) (hk : 19000 ≤ k) : remontoirlaw17_DefWrong.f (k + 2) nm ns fs a b = some true := by
  unfold remontoirlaw17_DefWrong.f
  obtain ⟨r, hr, hl⟩ := light_f nm ns fs (k + 2) (by omega)
  rw [hr, Option.bind_some, wakes_ok _ (by omega)]
  have hj : ∀ t x, remontoirlaw17_DefWrong.j0 (k + 2) a b t x nm ns fs = _ := fun t x => by rw [remontoirlaw17_DefWrong.j0, wakes_ok (k + 1) (by omega)]
  cases r with
  | false => rfl
  | true =>
    obtain ⟨l1, l2, l3, l4, l5⟩ := hl rfl
    obtain ⟨o1, o2⟩ := light_ok hi l4 l5
    rw [if_pos rfl]
    by_cases ht : HasText nm ns fs
    · rw [print_yes nm ns fs (by omega) o1 o2 ht _ (by omega), Option.bind_some, if_pos rfl]
      obtain ⟨l0, L, e1, e2, e3, e4, e5, e6, e7, e8, e9⟩ := text_lines ht
      dsimp only
      rw [hj]
      by_cases h59 : ((S (defText nm ns fs)).size : Int) > 5940
      · rw [decide_eq_true h59, if_pos rfl]; rfl
      rw [decide_eq_false h59, if_neg Bool.false_ne_true, lines_f _ _ (by rw [← e2]; omega), e1]
      rw [S_size, ← e2] at h59
      have hL : L.length ≤ 1000 := by omega
      have hlen : (unl (l0 :: L)).length ≤ 5940 := by omega
      have hV : VL (l0 :: L, 0) = some ((l0 :: L).map S, (0 : Int)) := rfl
      rw [hV, Option.bind_some, if_pos (show (((l0 :: L).map S, (0 : Int)) : List ByteArray × Int).2 = 0 from rfl)]
      dsimp only
      have hw1 : wrap64 ((((l0 :: L).map S).length : Int) + 1) = ((L.length + 2 : Nat) : Int) := by
        rw [List.length_map, List.length_cons]; exact wrapS (L.length + 1) (by omega)
      rw [beq_eq_false_iff_ne.mpr (show ¬ ((((l0 :: L).map S).length : Int) = 0) by rw [List.length_map, List.length_cons]; omega), remontoirlaw17_DefWrong.j1, if_neg Bool.false_ne_true, hw1, if_neg (by omega), bads_eq]
      have hwa : wrap64 a = a := by unfold wrap64; omega
      have hwb : wrap64 b = b := by unfold wrap64; omega
      have hma : Int.tmod (wrap64 a) ((L.length + 2 : Nat) : Int) = ((a.toNat % (L.length + 2) : Nat) : Int) := by
        rw [hwa, Int.tmod_eq_emod_of_nonneg ha.1, Int.natCast_emod]
        congr 1; omega
      have hmb : Int.tmod (wrap64 b) 21 = ((b.toNat % 21 : Nat) : Int) := by
        rw [hwb, Int.tmod_eq_emod_of_nonneg hb.1]; omega
      have hm := Nat.mod_lt a.toNat (show 0 < L.length + 2 by omega)
      rw [hma, ← e2]
      have hq : b.toNat % 21 < 21 := Nat.mod_lt _ (by omega)
      have hfin := wrong_l0 (nm := nm) e3 hlen e5 e6 e8 hL (b.toNat % 21) (a.toNat % (L.length + 2)) hq (by omega) b hmb (L.length + 2) 0 k (by omega) (Nat.zero_le _) (by omega)
      generalize a.toNat % (L.length + 2) = c at hfin ⊢
      have h0 : S (unl (part (l0 :: L) c (bads[b.toNat % 21]'hq) 0)) = ⟨#[]⟩ := by
        unfold part
        rw [if_pos (Nat.zero_le _)]; rfl
      rw [h0] at hfin
      exact hfin
    · rw [print_no nm ns fs (by omega) o1 o2 ht _ (by omega), Option.bind_some, if_neg Bool.false_ne_true, hj, if_pos rfl]
      rfl
theorem wrong_walk (nm : ByteArray) (A1 : Option Addr) (c1 : Nat) (l1 : List S40) (A2 : Option Addr) (c2 : Nat) (l2 : List S42) (a b : Int) (w : World) (hTab : Tab w) (hr1 : Kd.C k40 w A1 l1.length l1) (hc1 : l1.length ≤ c1) (hr2 : Kd.C k42 w A2 l2.length l2) (hc2 : l2.length ≤ c2) (o1 : ∀ n ∈ l1, Row.okV n.f0 n.f1 n.f2 n.f3 n.f4) (o2 : ∀ n ∈ l2, Row.okV n.f0 n.f1 n.f2 n.f3 n.f4) (ha : (Lit.int .u8 a).wf = true) (hb : (Lit.int .u8 b).wf = true) :
    Calls Tryd.prog 6 #[.agg #[.string nm, .slice A1 l1.length c1, .slice A2 l2.length c2], .int .u8 a, .int .u8 b] w fun e w' => e = .returned (.bool true) ∧ Below w.heap.size w w' :=
  remontoirlaw17_DefWrong.calls _ nm A1 c1 l1 A2 c2 l2 a b true w hTab hr1 hc1 hr2 hc2 rfl (wrong nm l1 l2 a b (wf_u8 ha) (wf_u8 hb) (ints_of o1 o2) 19000 (Nat.le_refl _))
end Go.Proofs.YtpalncojmknlbaaDoor.Pure
