/- The reference's Parse: what its printed function computes is what the plain one says. -/
import Derived.Test.YtcaegaljhogbjaaGreatDoorSpanSpec
import Derived.Test.YtcaegaljhogbjaaGreatDoorQx2
namespace Go.Proofs.YtcaegaljhogbjaaGreatDoor.Span

theorem valA_snoc (l : List UInt8) : ∀ (a : Nat) (c : UInt8), valA (l ++ [c]) a = valA l a * 10 + (c.toNat - 48) := by
 induction l with
 | nil => intro a c; rfl
 | cons d l ih => intro a c; rw [List.cons_append, valA_cons, valA_cons, ih]
theorem nD_app (l : List UInt8) (h : ∀ c ∈ l, isD c = true) (u : UInt8) (hu : isD u = false) (r : List UInt8) : nD (l ++ u :: r) = l.length := by
 induction l with
 | nil => simp [nD, hu]
 | cons c l ih =>
  rw [List.cons_append, nD, if_pos (h c (by simp)), ih (fun d hd => h d (by simp [hd])), List.length_cons]
theorem parse_P (r : List UInt8) : parseL (80 :: r) = if r.head? = some 84 then timeL r 0 else dateL r := rfl
end Go.Proofs.YtcaegaljhogbjaaGreatDoor.Span

namespace Go.Proofs.YtcaegaljhogbjaaGreatDoor.Span
set_option linter.unusedVariables false

/-- Did next find a number and a unit? -/
def nextOk (l : List UInt8) : Prop := ¬ (nD l < 1 ∨ 15 < nD l ∨ nD l = l.length ∨ (l.getD 0 0 = 48 ∧ 1 < nD l))
theorem next_yes (l : List UInt8) (h : nextOk l) : nextL l = (val (l.take (nD l)), (l.getD (nD l) 0).toNat, l.drop (nD l + 1)) := if_neg h
theorem next_no (l : List UInt8) (h : ¬ nextOk l) : nextL l = (0, 0, []) := if_pos (Classical.not_not.mp h)
theorem nD_append (l q : List UInt8) (h : nD l < l.length) : nD (l ++ q) = nD l := by
 induction l with
 | nil => simp at h
 | cons c l ih =>
  rw [List.cons_append, nD, nD]
  by_cases hc : isD c = true
  ·
   rw [if_pos hc, if_pos hc]
   rw [nD, if_pos hc, List.length_cons] at h
   rw [ih (by omega)]
  ·
   rw [if_neg hc, if_neg hc]
theorem time_no' (c : UInt8) (q : List UInt8) (h : c ≠ 84) (t : Nat) : timeL (c :: q) t = (0, 2) := by
 unfold timeL
 split
 ·
  rename_i heq; exact absurd (List.cons.inj heq).1 h
 ·
  rfl
theorem parse_begin_no (c : UInt8) (q : List UInt8) (h : c ≠ 80) : parseL (c :: q) = (0, 2) := by
 unfold parseL
 split
 ·
  rename_i heq; exact absurd (List.cons.inj heq).1 h
 ·
  rfl
end Go.Proofs.YtcaegaljhogbjaaGreatDoor.Span

namespace Go.Proofs.YtcaegaljhogbjaaGreatDoor.Span
open Go.RowKit Go.Proofs.YtcaegaljhogbjaaGreatDoorW.PrintWords Go.Proofs.YtcaegaljhogbjaaGreatDoor.Ext Go.Proofs.YtcaegaljhogbjaaGreatDoor.B Go.Proofs.YtcaegaljhogbjaaGreatDoor.Q
set_option linter.unusedVariables false

def okN (t : List UInt8) : Prop := ¬ (nD t < 1 ∨ 15 < nD t ∨ (t.getD 0 0 = 48 ∧ 1 < nD t))
instance (t : List UInt8) : Decidable (okN t) := by unfold okN; exact inferInstance
theorem wrapS (n : Nat) (h : n ≤ 200000000000000) : wrap64 ((n : Int) + 1) = ((n + 1 : Nat) : Int) := by unfold wrap64; omega
theorem wrapD (a n : Nat) (h : n ≤ 200000000000000) : wrap64 (((a + n : Nat) : Int) - (a : Int)) = ((n : Nat) : Int) := by unfold wrap64; omega
theorem accum (v c : Nat) (hv : v < 1000000000000000) (h1 : 48 ≤ c) (h2 : c ≤ 57) : IntKind.u64.wrap (IntKind.u64.wrap ((v : Int) * 10) + ((c : Int) - 48) % 256) = ((v * 10 + (c - 48) : Nat) : Int) := by rw [IntKind.wrap_u64, IntKind.wrap_u64]; omega
theorem drop_getD (l : List UInt8) (a j : Nat) : (l.drop a).getD j 0 = l.getD (a + j) 0 := by
 rw [List.getD_eq_getElem?_getD, List.getD_eq_getElem?_getD, List.getElem?_drop]
theorem val_snoc (t : List UInt8) (j : Nat) (h : j < t.length) : val (t.take (j + 1)) = val (t.take j) * 10 + ((t.getD j 0).toNat - 48) := by
 unfold val
 rw [List.take_succ_eq_append_getElem h, valA_snoc]
 congr 2
 rw [List.getD_eq_getElem?_getD, List.getElem?_eq_getElem h]; rfl
theorem take_digits (t : List UInt8) (j : Nat) (h : j ≤ nD t) : ∀ c ∈ t.take j, isD c = true := by
 intro c hc
 refine take_isD t c ?_
 have : t.take j = (t.take (nD t)).take j := by rw [List.take_take]; congr 1; omega
 rw [this] at hc
 exact List.mem_of_mem_take hc
theorem num_l1 (l : List UInt8) (a : Nat) (hl : l.length ≤ 140737488351232) (ha : a ≤ l.length) (h15 : nD (l.drop a) ≤ 15) :
  ∀ m j k : Nat, nD (l.drop a) - j = m → j ≤ nD (l.drop a) → m < k →
   zae.l1 k (S l) ((a + nD (l.drop a) : Nat) : Int) ((val ((l.drop a).take j) : Nat) : Int) ((a + j : Nat) : Int) = some (((val ((l.drop a).take (nD (l.drop a))) : Nat) : Int), ((a + nD (l.drop a) : Nat) : Int), true) := by
 have hn := nD_le (l.drop a)
 rw [List.length_drop] at hn
 intro m
 induction m with
 | zero =>
  intro j k hm hj hk
  obtain rfl : j = nD (l.drop a) := by omega
  obtain ⟨k, rfl⟩ : ∃ i, k = i + 1 := ⟨k - 1, by omega⟩
  simp only [zae.l1]
  rw [if_neg (by omega)]
 | succ m ih =>
  intro j k hm hj hk
  obtain ⟨k, rfl⟩ : ∃ i, k = i + 1 := ⟨k - 1, by omega⟩
  have q1 : ((a + j : Nat) : Int) < ((a + nD (l.drop a) : Nat) : Int) := by omega
  have q2 : 0 ≤ ((a + j : Nat) : Int) := by omega
  have q3 : ((a + j : Nat) : Int) < (((S l).size : Nat) : Int) := by rw [S_size]; omega
  have q4 : nD (l.drop a) - (j + 1) = m := by omega
  have q5 : j + 1 ≤ nD (l.drop a) := by omega
  have q6 : m < k := by omega
  have q7 : a + j ≤ 200000000000000 := by omega
  have q8 : j < (l.drop a).length := by rw [List.length_drop]; omega
  have q9 : ((l.drop a).take j).length ≤ 15 := by rw [List.length_take]; omega
  have hd := nD_in (l.drop a) j q5
  have hb : 48 ≤ ((l.drop a).getD j 0).toNat ∧ ((l.drop a).getD j 0).toNat ≤ 57 := by
   unfold isD at hd; rw [Bool.and_eq_true, decide_eq_true_eq, decide_eq_true_eq] at hd; exact hd
  have hv := val_lt ((l.drop a).take j) (take_digits _ j (Nat.le_of_succ_le q5)) q9
  have hs := val_snoc (l.drop a) j q8
  have hbt : bt (S l) ((a + j : Nat) : Int) = ((((l.drop a).getD j 0).toNat : Nat) : Int) := by rw [S_bt, drop_getD]
  have hw : wrap64 (((a + j : Nat) : Int) + 1) = ((a + (j + 1) : Nat) : Int) := wrapS (a + j) q7
  have hx : IntKind.u64.wrap (IntKind.u64.wrap (((val ((l.drop a).take j) : Nat) : Int) * 10) + (((((l.drop a).getD j 0).toNat : Nat) : Int) - 48) % 256) = ((val ((l.drop a).take (j + 1)) : Nat) : Int) := by
   rw [hs]; exact accum _ _ hv hb.1 hb.2
  simp only [zae.l1]
  rw [if_pos q1, if_pos q2, if_pos q3, hbt, hx, hw]
  exact ih (j + 1) k q4 q5 q6
def numV (l : List UInt8) (a : Nat) : Int × Int × Bool := if okN (l.drop a) then (((val ((l.drop a).take (nD (l.drop a))) : Nat) : Int), ((a + nD (l.drop a) : Nat) : Int), true) else (0, (a : Int), false)
theorem num_j1 (l : List UInt8) (a : Nat) (hl : l.length ≤ 140737488351232) (ha : a ≤ l.length) (k : Nat) (hk : nD (l.drop a) + 3 < k) :
  zae.j1 k (S l) a ((a + nD (l.drop a) : Nat) : Int) = some (numV l a) := by
 obtain ⟨k, rfl⟩ : ∃ i, k = i + 2 := ⟨k - 2, by omega⟩
 have hn := nD_le (l.drop a)
 rw [List.length_drop] at hn
 have hw : wrap64 (((a + nD (l.drop a) : Nat) : Int) - (a : Int)) = ((nD (l.drop a) : Nat) : Int) := wrapD a _ (by omega)
 have h0 : bt (S l) (a : Int) = ((((l.drop a).getD 0 0).toNat : Nat) : Int) := by rw [S_bt, drop_getD, Nat.add_zero]
 have yes : zae.j2 (k + 1) (S l) a ((a + nD (l.drop a) : Nat) : Int) true = some (0, (a : Int), false) := by simp only [zae.j2, if_true]
 have no : nD (l.drop a) ≤ 15 → zae.j2 (k + 1) (S l) a ((a + nD (l.drop a) : Nat) : Int) false = some (((val ((l.drop a).take (nD (l.drop a))) : Nat) : Int), ((a + nD (l.drop a) : Nat) : Int), true) := by
  intro h15
  simp only [zae.j2]
  rw [if_neg (by decide)]
  exact num_l1 l a hl ha h15 (nD (l.drop a)) 0 k (by omega) (by omega) (by omega)
 simp only [zae.j1]
 rw [hw, h0]
 unfold numV
 by_cases c1 : nD (l.drop a) < 1
 ·
  rw [if_pos (by omega), yes, if_neg (show ¬ okN (l.drop a) from fun h => h (Or.inl c1))]
 ·
  rw [if_neg (by omega)]
  by_cases c2 : 15 < nD (l.drop a)
  ·
   rw [if_pos (by omega), yes, if_neg (show ¬ okN (l.drop a) from fun h => h (Or.inr (Or.inl c2)))]
  ·
   rw [if_neg (by omega), if_pos (by omega), if_pos (by rw [S_size]; omega)]
   by_cases c3 : (l.drop a).getD 0 0 = 48
   ·
    rw [if_pos (by rw [c3]; rfl)]
    by_cases c4 : 1 < nD (l.drop a)
    ·
     rw [decide_eq_true (by omega), yes, if_neg (show ¬ okN (l.drop a) from fun h => h (Or.inr (Or.inr ⟨c3, c4⟩)))]
    ·
     rw [decide_eq_false (by omega), no (by omega), if_pos (show okN (l.drop a) from fun h => h.elim c1 (fun h => h.elim c2 (fun h => c4 h.2)))]
   ·
    rw [if_neg (by intro h; exact c3 ((is48 _).mp h)), no (by omega), if_pos (show okN (l.drop a) from fun h => h.elim c1 (fun h => h.elim c2 (fun h => c3 h.1)))]
theorem num_l0 (l : List UInt8) (a : Nat) (hl : l.length ≤ 140737488351232) (ha : a ≤ l.length) :
  ∀ m j k : Nat, nD (l.drop a) - j = m → j ≤ nD (l.drop a) → m + nD (l.drop a) + 5 < k → zae.l0 k (S l) a ((a + j : Nat) : Int) = some (numV l a) := by
 have hn := nD_le (l.drop a)
 rw [List.length_drop] at hn
 intro m
 induction m with
 | zero =>
  intro j k hm hj hk
  obtain rfl : j = nD (l.drop a) := by omega
  obtain ⟨k, rfl⟩ : ∃ i, k = i + 1 := ⟨k - 1, by omega⟩
  have key := num_j1 l a hl ha k (by omega)
  simp only [zae.l0]
  by_cases ce : a + nD (l.drop a) < l.length
  ·
   have hd := nD_out (l.drop a) (by rw [List.length_drop]; omega)
   rw [← Bool.not_eq_true, isD_iff] at hd
   rw [if_pos (by rw [S_size]; omega), if_pos (by omega), S_bt, ← drop_getD]
   split
   ·
    split
    ·
     exact absurd ⟨by assumption, by assumption⟩ hd
    ·
     exact key
   ·
    exact key
  ·
   rw [if_neg (by rw [S_size]; omega)]; exact key
 | succ m ih =>
  intro j k hm hj hk
  obtain ⟨k, rfl⟩ : ∃ i, k = i + 1 := ⟨k - 1, by omega⟩
  have hd := (isD_iff _).mp (nD_in (l.drop a) j (by omega))
  have hw : wrap64 (((a + j : Nat) : Int) + 1) = ((a + (j + 1) : Nat) : Int) := wrapS (a + j) (by omega)
  simp only [zae.l0]
  rw [if_pos (by rw [S_size]; omega), if_pos (by omega), S_bt, ← drop_getD, if_pos hd.1, if_pos hd.2, hw]
  exact ih (j + 1) k (by omega) (by omega) (by omega)
theorem num_f (l : List UInt8) (a : Nat) (hl : l.length ≤ 140737488351232) (ha : a ≤ l.length) (k : Nat) (hk : 2 * l.length + 6 < k) : zae.f k (S l) a = some (numV l a) := by
 have hn := nD_le (l.drop a)
 rw [List.length_drop] at hn
 exact num_l0 l a hl ha (nD (l.drop a)) 0 k (by omega) (by omega) (by omega)

/-! ### The sum up to one above the greatest -/
def cap (t : Nat) : Nat := if t ≤ 1125899906842624 then t else 1125899906842625
theorem add_cap (t n u : Nat) (hn : n < 1000000000000000) (hu : u = 604800 ∨ u = 86400 ∨ u = 3600 ∨ u = 60 ∨ u = 1) : zat.f (cap t) n u = some ((cap (moreN t n u) : Nat) : Int) := by
 unfold zat.f
 have hc : cap t ≤ 1125899906842625 := by unfold cap; split <;> omega
 rw [if_pos ⟨by omega, by omega, by omega, by omega, by omega⟩]
 refine congrArg some ?_
 unfold addI cap moreN heldN
 rcases hu with rfl | rfl | rfl | rfl | rfl
 all_goals
  (try rw [if_pos (show n * _ < 18446744073709551616 by omega)])
  repeat' split
  all_goals omega
theorem fin_cap (t : Nat) : (if ((cap t : Nat) : Int) > 1125899906842624 then some ((0 : Int), (3 : Int)) else some (((cap t : Nat) : Int), 0)) = some (((finN t).1 : Int), ((finN t).2 : Int)) := by
 unfold cap finN
 split
 ·
  rw [if_neg (by omega), if_neg (by omega)]; rfl
 ·
  rw [if_pos (by omega), if_pos (by omega)]; rfl
def V (r : Nat × Nat) : Option (Int × Int) := some ((r.1 : Int), (r.2 : Int))

/-! ### The loop over the units -/
theorem nextOk_iff (t : List UInt8) : nextOk t ↔ okN t ∧ nD t ≠ t.length := by
 unfold nextOk okN
 constructor
 ·
  intro h
  refine ⟨fun h' => h ?_, fun h' => h (Or.inr (Or.inr (Or.inl h')))⟩
  rcases h' with h' | h' | h'
  ·
   exact Or.inl h'
  ·
   exact Or.inr (Or.inl h')
  ·
   exact Or.inr (Or.inr (Or.inr h'))
 ·
  rintro ⟨h1, h2⟩ h'
  rcases h' with h' | h' | h' | h'
  ·
   exact h1 (Or.inl h')
  ·
   exact h1 (Or.inr (Or.inl h'))
  ·
   exact h2 h'
  ·
   exact h1 (Or.inr (Or.inr h'))
def loopR (f : Nat) (t : List UInt8) (s : Nat) (some_ : Bool) (p : Int) : Nat × Nat :=
 if t = [] then (if some_ = true then finN s else (0, 2)) else partL f t s p
theorem part_skip (f : Nat) (t : List UInt8) (s : Nat) (i : Int) (h : place (nextL t).2.1 ≠ i) : partL f t s (i - 1) = partL f t s i := by
 cases f with
 | zero => rfl
 | succ f =>
  rw [partL, partL]
  by_cases c : place (nextL t).2.1 ≤ i
  ·
   rw [if_pos c, if_pos (by omega)]
  ·
   rw [if_neg c, if_neg (by omega)]
theorem hms (i : Nat) (h : i < 3) : bt ⟨#[72, 77, 83]⟩ (i : Int) = if i = 0 then 72 else if i = 1 then 77 else 83 := by
 rcases (by omega : i = 0 ∨ i = 1 ∨ i = 2) with rfl | rfl | rfl <;> rfl
theorem unit_rd (i : Nat) (h : i < 3) : rd [3600, 60, 1] (i : Int) = ((unitN (i : Int) : Nat) : Int) := by
 rcases (by omega : i = 0 ∨ i = 1 ∨ i = 2) with rfl | rfl | rfl <;> rfl
theorem place_hms (u i : Nat) (h : i < 3) : place u = (i : Int) ↔ ((u : Nat) : Int) = (if i = 0 then 72 else if i = 1 then 77 else 83 : Int) := by
 unfold place
 rcases (by omega : i = 0 ∨ i = 1 ∨ i = 2) with rfl | rfl | rfl
 all_goals
  constructor
  ·
   intro h'; repeat' split at h'
   all_goals first | omega | (simp; omega)
  ·
   intro h'; simp at h'
   have : u = 72 ∨ u = 77 ∨ u = 83 := by omega
   rcases this with rfl | rfl | rfl <;> first | rfl | omega
theorem ref_loop (l : List UInt8) (hl : l.length ≤ 140737488351232) : ∀ m i : Nat, 3 - i = m → i ≤ 3 → ∀ (a : Nat) (s f k : Nat) (b : Bool), a ≤ l.length → 4 ≤ f + i → 2 * l.length + 8 + m < k →
  zaa.l0 k (S l) a ((cap s : Nat) : Int) b [3600, 60, 1] i = V (loopR f (l.drop a) s b ((i : Int) - 1)) := by
 intro m
 induction m with
 | zero =>
  intro i hm hi a s f k b ha hf hk
  obtain rfl : i = 3 := by omega
  obtain ⟨k, rfl⟩ : ∃ j, k = j + 2 := ⟨k - 2, by omega⟩
  simp only [zaa.l0]
  rw [if_neg (by omega)]
  have hpart : partL f (l.drop a) s (((3 : Nat) : Int) - 1) = (0, 2) := by
   cases f with
   | zero => rfl
   | succ f => rw [partL]; exact if_pos (place_bd _).2
  unfold loopR
  have hempty : l.drop a = [] ↔ a = l.length := by rw [List.drop_eq_nil_iff]; omega
  cases b with
  | false =>
   rw [if_neg (by decide)]
   simp only [zaa.j5, if_true]
   by_cases he : l.drop a = []
   ·
    rw [if_pos he, if_neg (by decide)]; rfl
   ·
    rw [if_neg he, hpart]; rfl
  | true =>
   rw [if_pos rfl]
   simp only [zaa.j5]
   by_cases he : l.drop a = []
   ·
    have : ((a : Int) != (((S l).size : Nat) : Int)) = false := by rw [bne_eq_false_iff_eq, S_size, hempty.mp he]
    rw [this, if_neg (by decide), if_pos he]
    simp only [if_true]
    exact fin_cap s
   ·
    have : ((a : Int) != (((S l).size : Nat) : Int)) = true := by
     rw [bne_iff_ne, S_size]; intro h; apply he; rw [hempty]; omega
    rw [this, if_pos rfl, if_neg he, hpart]; rfl
 | succ m ih =>
  intro i hm hi a s f k b ha hf hk
  obtain ⟨k, rfl⟩ : ∃ j, k = j + 1 := ⟨k - 1, by omega⟩
  have hi3 : i < 3 := by omega
  have hni : ¬ ((i : Int) ≤ (i : Int) - 1) := by omega
  have g1 : 3 - (i + 1) = m := by omega
  have g2 : i + 1 ≤ 3 := by omega
  have g3 : 2 * l.length + 8 + m < k := by omega
  have g4 : 4 ≤ f + (i + 1) := by omega
  have g5 : 2 * l.length + 6 < k := by omega
  have g6 : (i : Int) < 3 := by omega
  have g7 : 0 ≤ (i : Int) := by omega
  have e1 : ((i + 1 : Nat) : Int) - 1 = (i : Int) := by omega
  have hwi : wrap64 ((i : Int) + 1) = ((i + 1 : Nat) : Int) := wrapS i (by omega)
  have skip : (l.drop a = [] ∨ place (nextL (l.drop a)).2.1 ≠ (i : Int)) → zaa.l0 k (S l) a ((cap s : Nat) : Int) b [3600, 60, 1] ((i + 1 : Nat) : Int) = V (loopR f (l.drop a) s b ((i : Int) - 1)) := by
   intro h
   rw [ih (i + 1) g1 g2 a s f k b ha g4 g3]
   congr 1
   unfold loopR
   rw [e1]
   by_cases he : l.drop a = []
   ·
    rw [if_pos he, if_pos he]
   ·
    rw [if_neg he, if_neg he, part_skip f _ s (i : Int) (h.resolve_left he)]
  have hn := nD_le (l.drop a)
  rw [List.length_drop] at hn
  simp only [zaa.l0]
  rw [if_pos g6, num_f l a hl ha k g5, hwi]
  simp only [Option.bind_some]
  unfold numV
  by_cases ok : okN (l.drop a)
  ·
   rw [if_pos ok]
   simp only [if_true]
   have h1 : 1 ≤ nD (l.drop a) := by unfold okN at ok; omega
   have hne : l.drop a ≠ [] := by intro e; rw [e] at h1; simp [nD] at h1
   by_cases hend : a + nD (l.drop a) < l.length
   ·
    have r1 : ((a + nD (l.drop a) : Nat) : Int) < (((S l).size : Nat) : Int) := by rw [S_size]; omega
    have r2 : 0 ≤ ((a + nD (l.drop a) : Nat) : Int) := by omega
    have r3 : a + nD (l.drop a) + 1 ≤ l.length := by omega
    have r4 : a + nD (l.drop a) ≤ 200000000000000 := by omega
    rw [if_pos r1, if_pos r2, if_pos g7]
    have hok : nextOk (l.drop a) := (nextOk_iff _).mpr ⟨ok, by rw [List.length_drop]; omega⟩
    have hx := next_yes _ hok
    rw [S_bt, ← drop_getD, hms i hi3]
    by_cases hu : place (nextL (l.drop a)).2.1 = (i : Int)
    ·
     have hu' := (place_hms _ i hi3).mp hu
     rw [hx] at hu'
     rw [if_pos hu', if_pos (show (i : Int) < (([3600, 60, 1] : List Int).length : Int) from g6), unit_rd i hi3]
     have hval : val ((l.drop a).take (nD (l.drop a))) < 1000000000000000 := by have := (nextL_lt (l.drop a)).1; rw [hx] at this; exact this
     rw [add_cap s _ _ hval (by rcases (by omega : i = 0 ∨ i = 1 ∨ i = 2) with rfl | rfl | rfl <;> simp [unitN])]
     simp only [Option.bind_some]
     have hw : wrap64 (((a + nD (l.drop a) : Nat) : Int) + 1) = ((a + nD (l.drop a) + 1 : Nat) : Int) := wrapS _ r4
     obtain ⟨f, rfl⟩ : ∃ g, f = g + 1 := ⟨f - 1, by clear hval hw hu' hu hx; omega⟩
     have step : partL (f + 1) (l.drop a) s ((i : Int) - 1) = if (l.drop a).drop (nD (l.drop a) + 1) = [] then finN (moreN s (val ((l.drop a).take (nD (l.drop a)))) (unitN (i : Int))) else partL f ((l.drop a).drop (nD (l.drop a) + 1)) (moreN s (val ((l.drop a).take (nD (l.drop a)))) (unitN (i : Int))) (i : Int) := by
      rw [partL, hu, if_neg hni, hx]
     rw [hw, ih (i + 1) g1 g2 (a + nD (l.drop a) + 1) _ f k true r3 (by clear hval hw hu' hu hx step; omega) g3]
     congr 1
     unfold loopR
     have ed : l.drop (a + nD (l.drop a) + 1) = (l.drop a).drop (nD (l.drop a) + 1) := by rw [List.drop_drop]; congr 1
     rw [e1, if_neg hne, step, ed, if_pos (rfl : true = true)]
    ·
     have hu' := fun h => hu ((place_hms _ i hi3).mpr h)
     rw [hx] at hu'
     rw [if_neg hu']
     exact skip (Or.inr hu)
   ·
    rw [if_neg (by rw [S_size]; omega)]
    refine skip (Or.inr ?_)
    have hno : ¬ nextOk (l.drop a) := by
     intro h; have := ((nextOk_iff _).mp h).2; rw [List.length_drop] at this; omega
    rw [next_no _ hno]
    show place 0 ≠ _
    have : place 0 = -1 := rfl
    omega
  ·
   rw [if_neg ok, if_neg (show ¬ (false = true) by decide)]
   refine skip (Or.inr ?_)
   have hno : ¬ nextOk (l.drop a) := fun h => ok ((nextOk_iff _).mp h).1
   rw [next_no _ hno]
   show place 0 ≠ _
   have : place 0 = -1 := rfl
   omega
theorem ref_j3 (l : List UInt8) (hl : l.length ≤ 140737488351232) (a s k : Nat) (ha : a ≤ l.length) (hk : 2 * l.length + 13 < k) :
  zaa.j3 k (S l) a ((cap s : Nat) : Int) = V (if l.drop a = [] then finN s else timeL (l.drop a) s) := by
 obtain ⟨k, rfl⟩ : ∃ j, k = j + 1 := ⟨k - 1, by omega⟩
 simp only [zaa.j3]
 by_cases he : a = l.length
 ·
  have e : l.drop a = [] := by rw [List.drop_eq_nil_iff]; omega
  rw [if_neg (by rw [S_size]; omega), if_pos e]
  exact fin_cap s
 ·
  have hlt : a < l.length := by omega
  have hne : l.drop a ≠ [] := by intro e; rw [List.drop_eq_nil_iff] at e; omega
  have hw : wrap64 ((a : Int) + 1) = ((a + 1 : Nat) : Int) := wrapS a (by omega)
  rw [if_pos (by rw [S_size]; omega), if_pos (by omega), if_neg hne, S_bt]
  have hd : l.drop a = l.getD a 0 :: l.drop (a + 1) := by
   rw [List.getD_eq_getElem?_getD, List.getElem?_eq_getElem hlt]; exact List.drop_eq_getElem_cons hlt
  by_cases h84 : l.getD a 0 = 84
  ·
   have h84' : (((l.getD a 0).toNat : Nat) : Int) = 84 := by rw [h84]; rfl
   rw [if_pos h84', hw, show (0 : Int) = ((0 : Nat) : Int) from rfl, ref_loop l hl 3 0 (by omega) (by omega) (a + 1) s 4 k false (by omega) (by omega) (by omega), hd, h84]
   congr 1
   show loopR 4 (l.drop (a + 1)) s false (-1) = partL 4 (l.drop (a + 1)) s (-1)
   unfold loopR
   by_cases h0 : l.drop (a + 1) = []
   ·
    rw [if_pos h0, h0]; rfl
   ·
    rw [if_neg h0]
  ·
   have h84' : ¬ (((l.getD a 0).toNat : Nat) : Int) = 84 := by
    intro h; apply h84; exact UInt8.toNat_inj.mp (by have h2 : (84 : UInt8).toNat = 84 := rfl
                                                     rw [h2]; omega)
   rw [if_neg h84', hd, time_no' _ _ h84 s]; rfl
theorem ref_date (r : List UInt8) (hl : r.length + 1 ≤ 140737488351232) (k : Nat) (hk : 2 * (r.length + 1) + 15 < k) (hok : nextOk r) :
  zaa.j1 k (S (80 :: r)) 1 0 ((val (r.take (nD r)) : Nat) : Int) ((1 + nD r : Nat) : Int) true = V (dateL r) := by
 obtain ⟨k, rfl⟩ : ∃ j, k = j + 2 := ⟨k - 2, by omega⟩
 have hx := next_yes r hok
 have hn := nD_le r
 have hlt : nD r < r.length := by unfold nextOk at hok; omega
 have hb := nextL_lt r
 rw [hx] at hb
 have hval : val (r.take (nD r)) < 1000000000000000 := hb.1
 have hg : (80 :: r).getD (1 + nD r) 0 = r.getD (nD r) 0 := by rw [Nat.add_comm, List.getD_cons_succ]
 have hdr : (80 :: r).drop (1 + nD r + 1) = r.drop (nD r + 1) := by rw [show 1 + nD r + 1 = nD r + 1 + 1 by omega, List.drop_succ_cons]
 have hw : wrap64 (((1 + nD r : Nat) : Int) + 1) = ((1 + nD r + 1 : Nat) : Int) := wrapS _ (by omega)
 have hsz : (80 :: r).length = r.length + 1 := rfl
 have key : ∀ b : Bool, b = decide (((((r.getD (nD r) 0).toNat : Nat) : Int)) = 89 ∨ ((((r.getD (nD r) 0).toNat : Nat) : Int)) = 77) →
   zaa.j2 (k + 1) (S (80 :: r)) ((val (r.take (nD r)) : Nat) : Int) ((1 + nD r : Nat) : Int) (((r.getD (nD r) 0).toNat : Nat) : Int) b = V (dateL r) := by
  intro b hbb
  subst hbb
  simp only [zaa.j2, decide_eq_true_eq]
  unfold dateL
  rw [hx]
  have c0 : ((0 : Nat) : Int) = 0 := rfl
  have a1 := add_cap 0 _ 604800 hval (by omega)
  have a2 := add_cap 0 _ 86400 hval (by omega)
  have k0 : ((cap 0 : Nat) : Int) = 0 := rfl
  rw [k0] at a1 a2
  generalize r.getD (nD r) 0 = u at *
  by_cases c1 : u.toNat = 89 ∨ u.toNat = 77
  ·
   rw [if_pos (by omega), if_pos c1]; rfl
  ·
   rw [if_neg (by omega), if_neg c1]
   by_cases c2 : u.toNat = 87
   ·
    have z1 : zat.f 0 ((val (r.take (nD r)) : Nat) : Int) 604800 = _ := a1
    rw [if_pos (by omega), if_pos c2, z1, Option.bind_some, hw]
    by_cases c3 : r.drop (nD r + 1) = []
    ·
     have hlen : 1 + nD r + 1 = r.length + 1 := by rw [List.drop_eq_nil_iff] at c3; omega
     rw [if_pos (by rw [S_size, hsz]; omega), ref_j3 (80 :: r) (by rw [hsz]; omega) _ _ (k) (by rw [hsz]; omega) (by rw [hsz]; omega), hdr, if_pos c3, if_pos c3]
    ·
     have hlen : 1 + nD r + 1 ≠ r.length + 1 := by intro h; apply c3; rw [List.drop_eq_nil_iff]; omega
     rw [if_neg (by rw [S_size, hsz]; omega), if_neg c3]; rfl
   ·
    rw [if_neg (by omega), if_neg c2]
    by_cases c4 : u.toNat = 68
    ·
     have z2 : zat.f 0 ((val (r.take (nD r)) : Nat) : Int) 86400 = _ := a2
     rw [if_pos (by omega), if_pos c4, z2, Option.bind_some, hw, ref_j3 (80 :: r) (by rw [hsz]; omega) _ _ (k) (by rw [hsz]; omega) (by rw [hsz]; omega), hdr]
    ·
     rw [if_neg (by omega), if_neg c4]; rfl
 simp only [zaa.j1, if_true]
 rw [if_pos (by omega), if_pos (by rw [S_size, hsz]; omega), S_bt, hg]
 by_cases c : (((r.getD (nD r) 0).toNat : Nat) : Int) = 89
 ·
  rw [if_pos c]
  exact key _ (by rw [c]; rfl)
 ·
  rw [if_neg c]
  refine key _ ?_
  by_cases c' : (((r.getD (nD r) 0).toNat : Nat) : Int) = 77
  ·
   rw [c']; rfl
  ·
   rw [decide_eq_false (by rintro (h | h); exact c h; exact c' h), beq_eq_false_iff_ne]; exact c'
theorem ref_parse (l : List UInt8) (hl : l.length ≤ 140737488351232) (k : Nat) (hk : 2 * l.length + 20 < k) : zaa.f k (S l) = V (parseL l) := by
 obtain ⟨k, rfl⟩ : ∃ j, k = j + 1 := ⟨k - 1, by omega⟩
 have bad : zaa.j0 (k + 1) (S l) true = V (0, 2) := by simp only [zaa.j0, if_true]; rfl
 unfold zaa.f
 by_cases h2 : l.length < 2
 ·
  rw [if_pos (by rw [S_size]; omega), bad]
  congr 1
  cases l with
  | nil => rfl
  | cons c l =>
   have : l = [] := List.eq_nil_of_length_eq_zero (by rw [List.length_cons] at h2; omega)
   subst this
   by_cases hc : c = 80
   ·
    subst hc; rfl
   ·
    rw [parse_begin_no c [] hc]
 ·
  cases l with
  | nil => simp at h2
  | cons c r =>
   have hb0 : bt (S (c :: r)) 0 = ((c.toNat : Nat) : Int) := S_bt (c :: r) 0
   rw [if_neg (by rw [S_size]; omega), if_pos (by rw [S_size]; omega), hb0]
   by_cases hc : c = 80
   ·
    subst hc
    have : ((((80 : UInt8).toNat : Nat) : Int) != 80) = false := rfl
    rw [this]
    simp only [zaa.j0]
    rw [if_neg (by decide), show (1 : Int) = ((1 : Nat) : Int) from rfl, num_f (80 :: r) 1 hl (by rw [List.length_cons]; omega) k (by omega), Option.bind_some]
    have hsz : (80 :: r).length = r.length + 1 := rfl
    rw [hsz] at hk hl h2
    have hd1 : (80 :: r).drop 1 = r := rfl
    have hn := nD_le r
    have hrest : zaa.j3 (k - 1) (S (80 :: r)) ((1 : Nat) : Int) ((cap 0 : Nat) : Int) = V (timeL r 0) := by
     rw [ref_j3 (80 :: r) (by rw [hsz]; omega) 1 0 (k - 1) (by rw [hsz]; omega) (by rw [hsz]; omega), hd1, if_neg (by intro e; rw [e] at h2; simp at h2)]
    have hj : ∀ n p : Int, ¬ nextOk r → zaa.j1 k (S (80 :: r)) ((1 : Nat) : Int) 0 n p false = V (parseL (80 :: r)) := by
     intro n p hno
     obtain ⟨k, rfl⟩ : ∃ j, k = j + 1 := ⟨k - 1, by omega⟩
     simp only [zaa.j1]
     rw [if_neg (by decide)]
     refine Eq.trans hrest ?_
     congr 1
     rw [parse_P]
     by_cases hT : r.head? = some 84
     ·
      rw [if_pos hT]
     ·
      rw [if_neg hT]
      have e1 : timeL r 0 = (0, 2) := by
       cases r with
       | nil => rfl
       | cons d q => exact time_no' d q (by intro e; apply hT; rw [e]; rfl) 0
      have e2 : dateL r = (0, 2) := by unfold dateL; rw [next_no _ hno]; rfl
      rw [e1, e2]
    unfold numV
    rw [hd1]
    by_cases ok : okN r
    ·
     rw [if_pos ok]
     simp only [if_true]
     by_cases hend : nD r < r.length
     ·
      have hok : nextOk r := (nextOk_iff r).mpr ⟨ok, by omega⟩
      rw [decide_eq_true (by rw [S_size, hsz]; omega)]
      have := ref_date r hl k (by omega) hok
      refine Eq.trans this ?_
      congr 1
      rw [parse_P, if_neg]
      intro e
      have h1 := nD_in r 0 (by unfold okN at ok; omega)
      cases r with
      | nil => cases e
      | cons d q =>
       have : d = 84 := Option.some.inj e
       rw [List.getD_cons_zero, this] at h1
       exact absurd h1 (by decide)
     ·
      rw [decide_eq_false (by rw [S_size, hsz]; omega)]
      exact hj _ _ (fun h => by have := ((nextOk_iff r).mp h).2; omega)
    ·
     rw [if_neg ok, if_neg (show ¬ (false = true) by decide)]
     exact hj _ _ (fun h => ok ((nextOk_iff r).mp h).1)
   ·
    have hne : (((c.toNat : Nat) : Int) != 80) = true := by
     rw [bne_iff_ne]
     intro h; apply hc
     exact UInt8.toNat_inj.mp (by have h2 : (80 : UInt8).toNat = 80 := rfl
                                  rw [h2]; omega)
    rw [hne, bad, parse_begin_no c r hc]
end Go.Proofs.YtcaegaljhogbjaaGreatDoor.Span
