/- The reference's Parse and Text of a definition say what the plain words say. -/
import Derived.Test.YtpalncojmknlbaaDoorDefRowLaws
import Derived.Test.YtpalncojmknlbaaDoorYx8
import Derived.Test.YtpalncojmknlbaaDoorYx9
import Derived.Test.YtpalncojmknlbaaDoorYx10
namespace Go.Proofs.YtpalncojmknlbaaDoor.Pure
open Go.RowKit Go.Proofs.YtpalncojmknlbaaDoorW.PrintWords Go.Proofs.YtpalncojmknlbaaDoor.Ext Go.Proofs.YtpalncojmknlbaaDoor.A Go.Proofs.YtpalncojmknlbaaDoor.Y Go.Proofs.YtpalncojmknlbaaDoor.Span
set_option linter.unusedVariables false
set_option linter.unusedSimpArgs false
theorem is32 (c : UInt8) : ((c.toNat : Int) = 32) ↔ c = 32 := by
 constructor
 ·
  intro h
  have h' : c.toNat = (32 : UInt8).toNat := by
   have : (32 : UInt8).toNat = 32 := rfl
   omega
  exact UInt8.toNat_inj.mp h'
 ·
  rintro rfl; rfl
theorem drop_nil' {α : Type} (l : List α) (i : Nat) (h : l.length ≤ i) : l.drop i = [] := List.drop_eq_nil_of_le h
theorem drop_getD (l : List UInt8) (i : Nat) (h : i < l.length) : l.drop i = l.getD i 0 :: l.drop (i + 1) := by
 rw [List.drop_eq_getElem_cons h, List.getD_eq_getElem?_getD, List.getElem?_eq_getElem h]; rfl
theorem take_getD (l : List UInt8) (i a : Nat) (h : i < l.length) (ha : a ≤ i) : (l.take (i + 1)).drop a = (l.take i).drop a ++ [l.getD i 0] := by
 rw [List.take_succ_eq_append_getElem h, List.drop_append_of_le_length (by rw [List.length_take]; omega), List.getD_eq_getElem?_getD, List.getElem?_eq_getElem h]; rfl
theorem ref_l0 (l : List UInt8) (hl : l.length ≤ 6000) : ∀ m i k : Nat, l.length - i = m → i ≤ l.length → m < k → ∀ (a : Nat) (acc : List (List UInt8)), a ≤ i → acc.length ≤ i →
  remontoirref16_Lines.l0 k (S l) (acc.map S) (a : Int) (i : Int) = VL (refGo acc ((l.take i).drop a) (l.drop i)) := by
 intro m
 induction m with
 | zero =>
  intro i k hm hi hk a acc ha hacc
  obtain ⟨k, rfl⟩ : ∃ i, k = i + 1 := ⟨k - 1, by omega⟩
  simp only [remontoirref16_Lines.l0]
  rw [S_size, if_neg (by omega), drop_nil' l i (by omega), List.take_of_length_le (by omega), refGo]
  by_cases h : l.drop a = []
  ·
   have := List.drop_eq_nil_iff.mp h
   rw [if_pos (by omega), if_pos h]; rfl
  ·
   have : ¬ l.length ≤ a := fun h' => h (List.drop_eq_nil_iff.mpr h')
   rw [if_neg (by omega), if_neg h]; rfl
 | succ m ih =>
  intro i k hm hi hk a acc ha hacc
  obtain ⟨k, rfl⟩ : ∃ i, k = i + 1 := ⟨k - 1, by omega⟩
  have hil : i < l.length := by omega
  have hw := wrapS i (by omega)
  simp only [remontoirref16_Lines.l0]
  rw [S_size, if_pos (by omega), if_pos (by omega), S_bt, hw, drop_getD l i hil, refGo]
  by_cases h10 : l.getD i 0 = 10
  ·
   rw [if_pos ((is10 _).mpr h10), if_pos (by omega), if_pos (by omega), if_pos (by omega), if_pos (by rw [List.length_map]; omega), if_pos h10, Int.toNat_natCast, Int.toNat_natCast, S_mid]
   have e : (acc.map S ++ [S ((l.take i).drop a)]) = (acc ++ [(l.take i).drop a]).map S := by rw [List.map_append]; rfl
   have := ih (i + 1) k (by omega) (by omega) (by omega) (i + 1) (acc ++ [(l.take i).drop a]) (Nat.le_refl _) (by rw [List.length_append, List.length_singleton]; omega)
   rw [drop_nil' (l.take (i + 1)) (i + 1) (by rw [List.length_take]; omega)] at this
   rw [e]
   exact this
  ·
   rw [if_neg (fun e => h10 ((is10 _).mp e)), if_neg h10]
   by_cases hb : 32 ≤ (l.getD i 0).toNat ∧ (l.getD i 0).toNat ≤ 126
   ·
    rw [if_neg (by omega), if_neg (by omega), if_pos hb, ← take_getD l i a hil ha]
    exact ih (i + 1) k (by omega) (by omega) (by omega) a acc (by omega) (by omega)
   ·
    rw [if_neg hb]
    by_cases h32 : ((l.getD i 0).toNat : Int) < 32
    ·
     rw [if_pos h32]; rfl
    ·
     rw [if_neg h32, if_pos (by omega)]; rfl
theorem ref_lines_f (l : List UInt8) (k : Nat) (hk : l.length + 3 < k) : remontoirref16_Lines.f k (S l) = VL (linesL l) := by
 unfold remontoirref16_Lines.f linesL
 rw [S_size]
 by_cases h6 : 6000 < l.length
 ·
  rw [if_pos (by omega), if_pos h6]; rfl
 rw [if_neg (by omega), if_neg h6]
 have := ref_l0 l (by omega) l.length 0 k rfl (by omega) (by omega) 0 [] (Nat.le_refl _) (Nat.le_refl _)
 rw [List.take_zero, List.drop_nil, List.drop_zero, refGo_eq l [] [] (by simp), List.nil_append, List.nil_append] at this
 exact this
theorem rcut_l0 (l : List UInt8) (hl : l.length ≤ 100000) : ∀ m i k : Nat, l.length - i = m → i ≤ l.length → m < k → ∀ (acc : List ByteArray) (cur : List UInt8), acc.length ≤ i → cur.length ≤ i → (∀ d ∈ cur, d ≠ 32) →
  remontoirref16_Cut.l0 k (S l) (acc ++ [S cur]) (i : Int) = some (acc ++ (pieces 32 (cur ++ l.drop i)).map S) := by
 intro m
 induction m with
 | zero =>
  intro i k hm hi hk acc cur ha hc hcur
  obtain ⟨k, rfl⟩ : ∃ i, k = i + 1 := ⟨k - 1, by omega⟩
  simp only [remontoirref16_Cut.l0]
  rw [S_size, if_neg (by omega), drop_nil' l i (by omega), List.append_nil, pieces_none 32 cur hcur]; rfl
 | succ m ih =>
  intro i k hm hi hk acc cur ha hc hcur
  obtain ⟨k, rfl⟩ : ∃ i, k = i + 1 := ⟨k - 1, by omega⟩
  have hil : i < l.length := by omega
  have hlen : (acc ++ [S cur]).length = acc.length + 1 := by rw [List.length_append, List.length_singleton]
  have hlast : rdOf ByteArray.empty (acc ++ [S cur]) ((acc.length : Nat) : Int) = S cur := by
   have := rd_last acc (S cur)
   rw [hlen, Nat.add_sub_cancel] at this
   exact this
  have hset : ∀ y : ByteArray, (acc ++ [S cur]).set acc.length y = acc ++ [y] := by
   intro y
   have := set_last acc (S cur) y
   rw [hlen, Nat.add_sub_cancel] at this
   exact this
  have hmid : (S l).extract i (i + 1) = S [l.getD i 0] := by
   rw [S_mid, take_getD l i i hil (Nat.le_refl _), drop_nil' (l.take i) i (by rw [List.length_take]; omega)]; rfl
  have i1 : (i : Int) < ((i + 1 : Nat) : Int) ∨ True := Or.inr trivial
  have c1 : (i : Int) < (l.length : Int) := by omega
  have c2 : (0 : Int) ≤ (i : Int) := by omega
  have c3 : (acc ++ [S cur]).length < 8796093022208 := by omega
  have c4 : (0 : Int) ≤ ((acc.length : Nat) : Int) := by omega
  have c5 : ((acc.length : Nat) : Int) < ((acc.length + 1 : Nat) : Int) := by omega
  have c6 : (i : Int) ≤ ((i + 1 : Nat) : Int) := by omega
  have c7 : ((i + 1 : Nat) : Int) ≤ (l.length : Int) := by omega
  have c8 : cur.length + 1 ≤ 9223372036854775807 := by omega
  have ih1 := ih (i + 1) k (by omega) (by omega) (by omega) (acc ++ [S cur]) [] (by rw [hlen]; omega) (by simp) (by simp)
  have ih2 := fun hcc => ih (i + 1) k (by omega) (by omega) (by omega) acc (cur ++ [l.getD i 0]) (by omega) (by rw [List.length_append, List.length_singleton]; omega) hcc
  have hw := wrapS i (by omega)
  have hw2 : wrap64 (((acc ++ [S cur]).length : Int) - 1) = ((acc.length : Nat) : Int) := by rw [hlen]; unfold wrap64; omega
  simp only [remontoirref16_Cut.l0]
  rw [S_size, if_pos c1, if_pos c2, S_bt, hw, hw2, drop_getD l i hil]
  by_cases h32 : l.getD i 0 = 32
  ·
   rw [if_pos (by rw [h32]; rfl), if_pos c3, h32, pieces_hit 32 cur _ hcur]
   refine Eq.trans ih1 ?_
   rw [List.nil_append, List.append_assoc]; rfl
  ·
   have hn : ¬ ((l.getD i 0).toNat : Int) = 32 := fun e => h32 ((is32 _).mp e)
   rw [if_neg hn, if_pos c4, hlen, if_pos c5, if_pos c6, if_pos c7, hlast, Int.toNat_natCast, Int.toNat_natCast, Int.toNat_natCast, hmid, S_size, S_size, if_pos (show cur.length + [l.getD i 0].length ≤ 9223372036854775807 from c8), S_append, hset]
   refine Eq.trans (ih2 (no_snoc cur _ 32 hcur h32)) ?_
   rw [List.append_assoc]; rfl
theorem rcut_f (l : List UInt8) (hl : l.length ≤ 100000) (k : Nat) (hk : l.length < k) : remontoirref16_Cut.f k (S l) = some ((pieces 32 l).map S) := by
 have := rcut_l0 l hl l.length 0 k rfl (by omega) hk [] [] (Nat.le_refl _) (Nat.le_refl _) (by simp)
 rw [List.drop_zero, List.nil_append, List.nil_append, List.nil_append] at this
 exact this
theorem val_snoc' (t : List UInt8) (j : Nat) (h : j < t.length) : val (t.take (j + 1)) = val (t.take j) * 10 + ((t.getD j 0).toNat - 48) := by
 unfold val
 rw [List.take_succ_eq_append_getElem h, valA_snoc, List.getD_eq_getElem?_getD, List.getElem?_eq_getElem h]; rfl
theorem step9 (v c : Nat) (hv : v < 1000000000000000) (h1 : 48 ≤ c) (h2 : c ≤ 57) : wrap64 (wrap64 (10 * (v : Int)) + (((c : Int) - 48) % 256)) = ((v * 10 + (c - 48) : Nat) : Int) := by
 have e1 : wrap64 (10 * (v : Int)) = 10 * (v : Int) := by unfold wrap64; omega
 have e2 : ((c : Int) - 48) % 256 = (c : Int) - 48 := by omega
 rw [e1, e2]
 unfold wrap64
 omega
theorem rn_l0 (l : List UInt8) (most : Int) (h1 : 1 ≤ l.length) (h9 : l.length ≤ 9) (h0 : ¬ (l.getD 0 0 = 48 ∧ 1 < l.length)) :
  ∀ m j k : Nat, l.length - j = m → j ≤ l.length → (l.take j).all isD = true → m < k → remontoirref16_Number.l0 k (S l) most ((val (l.take j) : Nat) : Int) (j : Int) = some (numV l most) := by
 intro m
 induction m with
 | zero =>
  intro j k hm hj ha hk
  obtain ⟨k, rfl⟩ : ∃ i, k = i + 1 := ⟨k - 1, by omega⟩
  rw [List.take_of_length_le (by omega)] at ha
  have hv : numV l most = if (val l : Int) ≤ most then ((val l : Int), true) else (0, false) := by
   unfold numV
   rw [if_neg (by rintro (h | h | h | h) <;> first | omega | exact h0 h | exact h ha)]
  simp only [remontoirref16_Number.l0]
  rw [S_size, if_neg (by omega), List.take_of_length_le (show l.length ≤ j by omega), hv]
  by_cases hc : (val l : Int) ≤ most
  ·
   rw [if_pos hc, if_neg (by omega)]
  ·
   rw [if_neg hc, if_pos (by omega)]
 | succ m ih =>
  intro j k hm hj ha hk
  obtain ⟨k, rfl⟩ : ∃ i, k = i + 1 := ⟨k - 1, by omega⟩
  have hjl : j < l.length := by omega
  have hw := wrapS j (by omega)
  have hvl : val (l.take j) < 1000000000000000 := val_lt _ (fun c hc => List.all_eq_true.mp ha c hc) (by rw [List.length_take]; omega)
  have hsn := val_snoc' l j hjl
  simp only [remontoirref16_Number.l0]
  rw [S_size, if_pos (by omega), if_pos (by omega), S_bt, hw]
  by_cases hd : isD (l.getD j 0) = true
  ·
   have hi := (isD_iff _).mp hd
   have hih := ih (j + 1) k (by omega) (by omega) (all_take l isD j hjl ha hd) (by omega)
   have e : wrap64 (wrap64 (10 * ((val (l.take j) : Nat) : Int)) + ((((l.getD j 0).toNat : Int) - 48) % 256)) = ((val (l.take (j + 1)) : Nat) : Int) := by
    rw [hsn]; exact step9 _ _ hvl (by omega) (by omega)
   rw [if_neg (by omega), if_neg (by omega), e]
   exact hih
  ·
   have hi : ¬ (48 ≤ ((l.getD j 0).toNat : Int) ∧ ((l.getD j 0).toNat : Int) ≤ 57) := fun h => hd ((isD_iff _).mpr h)
   rw [num_no l most (Or.inr (Or.inr (Or.inr (not_all_at l isD j hjl hd))))]
   by_cases h48 : ((l.getD j 0).toNat : Int) < 48
   ·
    rw [if_pos h48]
   ·
    rw [if_neg h48, if_pos (by omega)]
theorem rn_f (l : List UInt8) (most : Int) (k : Nat) (hk : l.length + 3 < k) : remontoirref16_Number.f k (S l) most = some (numV l most) := by
 obtain ⟨k, rfl⟩ : ∃ i, k = i + 1 := ⟨k - 1, by omega⟩
 unfold remontoirref16_Number.f
 rw [S_size]
 by_cases h1 : l.length < 1
 ·
  rw [if_pos (by omega), num_no l most (Or.inl h1)]
  simp only [remontoirref16_Number.j0, if_true]
 rw [if_neg (by omega)]
 by_cases h9 : 9 < l.length
 ·
  rw [if_pos (by omega), num_no l most (Or.inr (Or.inl h9))]
  simp only [remontoirref16_Number.j0, if_true]
 rw [if_neg (by omega)]
 have h0 : bt (S l) 0 = ((l.getD 0 0).toNat : Int) := S_bt l 0
 have hgo : ¬ (l.getD 0 0 = 48 ∧ 1 < l.length) → remontoirref16_Number.j0 (k + 1) (S l) most false = some (numV l most) := by
  intro hn
  simp only [remontoirref16_Number.j0]
  rw [if_neg (by decide)]
  exact rn_l0 l most (by omega) (by omega) hn l.length 0 k (by omega) (by omega) rfl (by omega)
 by_cases hl : 1 < l.length
 ·
  rw [if_pos (by omega), if_pos (by omega), h0]
  by_cases h48 : l.getD 0 0 = 48
  ·
   rw [beq_iff_eq.mpr ((is48 _).mpr h48), num_no l most (Or.inr (Or.inr (Or.inl ⟨h48, hl⟩)))]
   simp only [remontoirref16_Number.j0, if_true]
  ·
   rw [beq_eq_false_iff_ne.mpr (fun e => h48 ((is48 _).mp e))]
   exact hgo (fun h => h48 h.1)
 ·
  rw [if_neg (by omega)]
  exact hgo (fun h => hl h.2)
theorem rnm_l0 (l : List UInt8) (hl : l.length ≤ 1000000) : ∀ m j k : Nat, l.length - j = m → j ≤ l.length → (l.take j).all okN = true → m < k → remontoirref16_Name.l0 k (S l) (j : Int) = some (nameV l) := by
 intro m
 induction m with
 | zero =>
  intro j k hm hj ha hk
  obtain ⟨k, rfl⟩ : ∃ i, k = i + 1 := ⟨k - 1, by omega⟩
  rw [List.take_of_length_le (by omega)] at ha
  simp only [remontoirref16_Name.l0]
  rw [if_neg (by rw [S_size]; omega)]
  exact nameV_end l ha
 | succ m ih =>
  intro j k hm hj ha hk
  obtain ⟨k, rfl⟩ : ∃ i, k = i + 1 := ⟨k - 1, by omega⟩
  have hjl : j < l.length := by omega
  have hw := wrapS j (by omega)
  have hih := fun hd => ih (j + 1) k (by omega) (by omega) (all_take l okN j hjl ha hd) (by omega)
  have hno := fun hn => nameV_no l (not_all_at l okN j hjl hn)
  have hiff := okN_iff (l.getD j 0)
  simp only [remontoirref16_Name.l0]
  rw [if_pos (by rw [S_size]; omega), if_pos (by omega), S_bt, hw]
  generalize okN (l.getD j 0) = b at hiff hih hno
  generalize ((l.getD j 0).toNat : Int) = c at hiff
  clear ih
  by_cases h1 : c < 97
  ·
   rw [if_pos h1]
   by_cases h2 : c < 48
   ·
    rw [if_pos h2, hno (fun h => by have := hiff.mp h; omega)]
   ·
    rw [if_neg h2]
    by_cases h3 : c > 57
    ·
     rw [if_pos h3, hno (fun h => by have := hiff.mp h; omega)]
    ·
     rw [if_neg h3]; exact hih (hiff.mpr (by omega))
  ·
   rw [if_neg h1]
   by_cases h4 : c > 122
   ·
    rw [if_pos h4, if_neg (by omega), if_pos (by omega), hno (fun h => by have := hiff.mp h; omega)]
   ·
    rw [if_neg h4]; exact hih (hiff.mpr (by omega))
theorem rnm_f (l : List UInt8) (hl : l.length ≤ 1000000) (k : Nat) (hk : l.length < k) : remontoirref16_Name.f k (S l) = some (nameV l) :=
 rnm_l0 l hl l.length 0 k (by omega) (by omega) rfl hk
end Go.Proofs.YtpalncojmknlbaaDoor.Pure

namespace Go.Proofs.YtpalncojmknlbaaDoor.Pure
open Go.RowKit Go.Proofs.YtpalncojmknlbaaDoorW.PrintWords Go.Proofs.YtpalncojmknlbaaDoor.Ext Go.Proofs.YtpalncojmknlbaaDoor.A Go.Proofs.YtpalncojmknlbaaDoor.Y Go.Proofs.YtpalncojmknlbaaDoor.Span
set_option linter.unusedVariables false
set_option linter.unusedSimpArgs false

theorem rnum_f (l : List UInt8) (k : Nat) (hk : l.length + 3 < k) : remontoirref17_number.f k (S l) = some (match numO l with
  | some n => (n, true)
  | none => (0, false)) := by
 unfold remontoirref17_number.f
 rw [rn_f l 999 k hk, Option.bind_some, numV_eq]; rfl
theorem rdS (ps : List (List UInt8)) (j : Nat) (h : j < ps.length) : rdOf ByteArray.empty (ps.map S) (j : Int) = S ps[j] := by
 rw [rd_at _ j (by rw [List.length_map]; exact h), List.getElem_map]
theorem empty_iff (l : List UInt8) : ((S l).toList = ([] : List UInt8)) ↔ l = [] := by rw [Lib.toList_data, S_list]
theorem toL (l m : List UInt8) : ((S l).toList = m) ↔ l = m := by rw [Lib.toList_data, S_list]
/-- Words of which none is empty. -/
def allNe (ps : List (List UInt8)) : Bool := ps.all (fun x => !x.isEmpty)
def RNodeOk (o : Option S40) (r : Int × Int × Int × Int × ByteArray × Bool) : Prop := match o with
 | some n => r = (n.f0, n.f1, n.f2, n.f3, n.f4, true)
 | none => r.2.2.2.2.2 = false
theorem kinds_words : ∀ k : Nat, 1 ≤ k → k ≤ 9 → rdOf ByteArray.empty ([(⟨#[]⟩ : ByteArray), (⟨#[115, 116, 97, 114, 116]⟩ : ByteArray), (⟨#[101, 110, 100]⟩ : ByteArray), (⟨#[116, 97, 115, 107]⟩ : ByteArray), (⟨#[99, 97, 116, 99, 104]⟩ : ByteArray), (⟨#[120, 111, 114]⟩ : ByteArray), (⟨#[97, 110, 100]⟩ : ByteArray), (⟨#[115, 117, 98]⟩ : ByteArray), (⟨#[115, 116, 111, 112]⟩ : ByteArray), (⟨#[115, 105, 100, 101]⟩ : ByteArray)] : List ByteArray) (k : Int) = S (kindWord (k : Int)) := by
 intro k h1 h9
 have : k = 1 ∨ k = 2 ∨ k = 3 ∨ k = 4 ∨ k = 5 ∨ k = 6 ∨ k = 7 ∨ k = 8 ∨ k = 9 := by omega
 rcases this with e | e | e | e | e | e | e | e | e <;> (subst e; rfl)
/-- What is found among the words up to j. -/
theorem node_l1_end (x : List UInt8) (l : List (List UInt8)) (kd : Int) (hkd : kd = kindOf x) (k : Nat) (hk : ∀ y ∈ x :: l, y.length + 10 < k) (wsB : List ByteArray) :
  ∃ r, remontoirref17_node.l1 k ((x :: l).map S) wsB 10 kd 0 0 0 ⟨#[]⟩ = some r ∧ RNodeOk (nodeT x l) r := by
 obtain ⟨k, rfl⟩ : ∃ j, k = j + 2 := ⟨k - 2, by have := hk x (by simp); omega⟩
 have hlen : (((x :: l).map S).length : Int) = (l.length : Int) + 1 := by rw [List.length_map, List.length_cons]; omega
 have hj2 : ∀ b, remontoirref17_node.j2 (k + 1) ((x :: l).map S) b kd 0 0 0 ⟨#[]⟩ = _ := fun b => by rw [remontoirref17_node.j2]
 have hkr := kindOf_in x
 rw [remontoirref17_node.l1, if_neg (by decide), Option.bind_some]
 unfold nodeT
 by_cases h0 : kd = 0
 ·
  rw [if_pos h0, hj2, if_pos rfl, if_pos (hkd ▸ h0)]
  exact ⟨_, rfl, rfl⟩
 rw [if_neg h0, if_neg (fun e => h0 (hkd.trans e)), if_pos (by omega), if_pos (by show kd < 10; omega), hlen]
 have hw : ∀ y ∈ l, y.length + 3 < k := fun y hy => by have := hk y (by simp [hy]); omega
 have r1 : ∀ (y : List UInt8) (q : List (List UInt8)), l = y :: q → rdOf ByteArray.empty ((x :: l).map S) 1 = S y := fun y q e => by subst e; rfl
 have r2 : ∀ (y z : List UInt8) (q : List (List UInt8)), l = y :: z :: q → rdOf ByteArray.empty ((x :: l).map S) 2 = S z := fun y z q e => by subst e; rfl
 have r3 : ∀ (y z t : List UInt8) (q : List (List UInt8)), l = y :: z :: t :: q → rdOf ByteArray.empty ((x :: l).map S) 3 = S t := fun y z t q e => by subst e; rfl
 have hrd : rd ([0, 2, 2, 3, 3, 2, 2, 2, 4, 4] : List Int) kd = if kd = 3 ∨ kd = 4 then 3 else if kd = 8 ∨ kd = 9 then 4 else 2 := by
  have : kd = 1 ∨ kd = 2 ∨ kd = 3 ∨ kd = 4 ∨ kd = 5 ∨ kd = 6 ∨ kd = 7 ∨ kd = 8 ∨ kd = 9 := by omega
  rcases this with e | e | e | e | e | e | e | e | e <;> (subst e; rfl)
 rw [hrd]
 rw [← hkd]
 by_cases h3 : kd = 3
 ·
  rw [if_pos (Or.inl h3), if_pos h3]
  match l, hlen, hw, r1, r2 with
  | [y, z], hlen, hw, r1, r2 =>
   show ∃ r, _ = some r ∧ RNodeOk ((numO y).bind fun a => (numO z).bind fun b => some ⟨3, a, b, 0, S []⟩) r
   rw [show (((([y, z] : List (List UInt8)).length : Int) + 1) != 3) = false from rfl, hj2, if_neg Bool.false_ne_true, if_pos (by rw [List.length_map]; simp only [List.length_cons, List.length_nil]; omega), r1 y [z] rfl, rnum_f y k (hw y (by simp)), Option.bind_some, if_pos h3, if_pos (by rw [List.length_map]; simp only [List.length_cons, List.length_nil]; omega), r2 y z [] rfl, rnum_f z k (hw z (by simp)), Option.bind_some]
   cases hy : numO y with
   | none => exact ⟨_, rfl, rfl⟩
   | some a =>
    cases hz : numO z with
    | none => exact ⟨_, rfl, rfl⟩
    | some b => exact ⟨_, rfl, by rw [h3]; rfl⟩
  | [], hlen, _, _, _ => rw [show (((([] : List (List UInt8)).length : Int) + 1) != 3) = true from rfl, hj2, if_pos rfl]; exact ⟨_, rfl, rfl⟩
  | [y], hlen, _, _, _ => rw [show (((([y] : List (List UInt8)).length : Int) + 1) != 3) = true from rfl, hj2, if_pos rfl]; exact ⟨_, rfl, rfl⟩
  | y :: z :: t :: q, hlen, _, _, _ => rw [bne_iff_ne.mpr (show (((y :: z :: t :: q).length : Int) + 1) ≠ 3 by simp only [List.length_cons]; omega), hj2, if_pos rfl]; exact ⟨_, rfl, rfl⟩
 rw [if_neg h3]
 by_cases h4 : kd = 4
 ·
  rw [if_pos (Or.inr h4), if_pos h4]
  match l, hlen, hw, r1, r2 with
  | [y, z], hlen, hw, r1, r2 =>
   show ∃ r, _ = some r ∧ RNodeOk ((numO y).bind fun a => some ⟨4, a, 0, 0, S z⟩) r
   rw [show (((([y, z] : List (List UInt8)).length : Int) + 1) != 3) = false from rfl, hj2, if_neg Bool.false_ne_true, if_pos (by rw [List.length_map]; simp only [List.length_cons, List.length_nil]; omega), r1 y [z] rfl, rnum_f y k (hw y (by simp)), Option.bind_some, if_neg h3, if_pos h4, if_pos (by rw [List.length_map]; simp only [List.length_cons, List.length_nil]; omega), r2 y z [] rfl]
   cases hy : numO y with
   | none => exact ⟨_, rfl, rfl⟩
   | some a => exact ⟨_, rfl, by rw [h4]; rfl⟩
  | [], hlen, _, _, _ => rw [show (((([] : List (List UInt8)).length : Int) + 1) != 3) = true from rfl, hj2, if_pos rfl]; exact ⟨_, rfl, rfl⟩
  | [y], hlen, _, _, _ => rw [show (((([y] : List (List UInt8)).length : Int) + 1) != 3) = true from rfl, hj2, if_pos rfl]; exact ⟨_, rfl, rfl⟩
  | y :: z :: t :: q, hlen, _, _, _ => rw [bne_iff_ne.mpr (show (((y :: z :: t :: q).length : Int) + 1) ≠ 3 by simp only [List.length_cons]; omega), hj2, if_pos rfl]; exact ⟨_, rfl, rfl⟩
 rw [if_neg (fun h => h.elim h3 h4), if_neg h4]
 by_cases h89 : kd = 8 ∨ kd = 9
 ·
  rw [if_pos h89, if_pos h89]
  match l, hlen, hw, r1, r2, r3 with
  | [y, z, t], hlen, hw, r1, r2, r3 =>
   show ∃ r, _ = some r ∧ RNodeOk ((numO y).bind fun a => (numO z).bind fun b => some ⟨kd, a, 0, b, S t⟩) r
   rw [show (((([y, z, t] : List (List UInt8)).length : Int) + 1) != 4) = false from rfl, hj2, if_neg Bool.false_ne_true, if_pos (by rw [List.length_map]; simp only [List.length_cons, List.length_nil]; omega), r1 y [z, t] rfl, rnum_f y k (hw y (by simp)), Option.bind_some, if_neg h3, if_neg h4]
   by_cases h8 : kd = 8
   ·
    rw [if_pos h8, if_pos (by rw [List.length_map]; simp only [List.length_cons, List.length_nil]; omega), r2 y z [t] rfl, rnum_f z k (hw z (by simp)), Option.bind_some, if_pos (by rw [List.length_map]; simp only [List.length_cons, List.length_nil]; omega), r3 y z t [] rfl]
    cases hy : numO y with
    | none => exact ⟨_, rfl, rfl⟩
    | some a =>
     cases hz : numO z with
     | none => exact ⟨_, rfl, rfl⟩
     | some b => exact ⟨_, rfl, rfl⟩
   ·
    rw [if_neg h8, if_pos (h89.resolve_left h8), if_pos (by rw [List.length_map]; simp only [List.length_cons, List.length_nil]; omega), r2 y z [t] rfl, rnum_f z k (hw z (by simp)), Option.bind_some, if_pos (by rw [List.length_map]; simp only [List.length_cons, List.length_nil]; omega), r3 y z t [] rfl]
    cases hy : numO y with
    | none => exact ⟨_, rfl, rfl⟩
    | some a =>
     cases hz : numO z with
     | none => exact ⟨_, rfl, rfl⟩
     | some b => exact ⟨_, rfl, rfl⟩
  | [], hlen, _, _, _, _ => rw [show (((([] : List (List UInt8)).length : Int) + 1) != 4) = true from rfl, hj2, if_pos rfl]; exact ⟨_, rfl, rfl⟩
  | [y], hlen, _, _, _, _ => rw [show (((([y] : List (List UInt8)).length : Int) + 1) != 4) = true from rfl, hj2, if_pos rfl]; exact ⟨_, rfl, rfl⟩
  | [y, z], hlen, _, _, _, _ => rw [show (((([y, z] : List (List UInt8)).length : Int) + 1) != 4) = true from rfl, hj2, if_pos rfl]; exact ⟨_, rfl, rfl⟩
  | y :: z :: t :: u :: q, hlen, _, _, _, _ => rw [bne_iff_ne.mpr (show (((y :: z :: t :: u :: q).length : Int) + 1) ≠ 4 by simp only [List.length_cons]; omega), hj2, if_pos rfl]; exact ⟨_, rfl, rfl⟩
 rw [if_neg h89, if_neg h89]
 match l, hlen, hw, r1 with
 | [y], hlen, hw, r1 =>
  show ∃ r, _ = some r ∧ RNodeOk ((numO y).bind fun a => some ⟨kd, a, 0, 0, S []⟩) r
  rw [show (((([y] : List (List UInt8)).length : Int) + 1) != 2) = false from rfl, hj2, if_neg Bool.false_ne_true, if_pos (by rw [List.length_map]; simp only [List.length_cons, List.length_nil]; omega), r1 y [] rfl, rnum_f y k (hw y (by simp)), Option.bind_some, if_neg h3, if_neg h4, if_neg (fun h => h89 (Or.inl h)), if_neg (fun h => h89 (Or.inr h))]
  cases hy : numO y with
  | none => exact ⟨_, rfl, rfl⟩
  | some a => exact ⟨_, rfl, rfl⟩
 | [], hlen, _, _ => rw [show (((([] : List (List UInt8)).length : Int) + 1) != 2) = true from rfl, hj2, if_pos rfl]; exact ⟨_, rfl, rfl⟩
 | y :: z :: q, hlen, _, _ => rw [bne_iff_ne.mpr (show (((y :: z :: q).length : Int) + 1) ≠ 2 by simp only [List.length_cons]; omega), hj2, if_pos rfl]; exact ⟨_, rfl, rfl⟩
def kindsB : List ByteArray := [(⟨#[]⟩ : ByteArray), (⟨#[115, 116, 97, 114, 116]⟩ : ByteArray), (⟨#[101, 110, 100]⟩ : ByteArray), (⟨#[116, 97, 115, 107]⟩ : ByteArray), (⟨#[99, 97, 116, 99, 104]⟩ : ByteArray), (⟨#[120, 111, 114]⟩ : ByteArray), (⟨#[97, 110, 100]⟩ : ByteArray), (⟨#[115, 117, 98]⟩ : ByteArray), (⟨#[115, 116, 111, 112]⟩ : ByteArray), (⟨#[115, 105, 100, 101]⟩ : ByteArray)]
/-- The kind, as far as it was looked for. -/
def kdAt (x : List UInt8) (j : Nat) : Int := if 1 ≤ kindOf x ∧ kindOf x < (j : Int) then kindOf x else 0
theorem kind_eq (x : List UInt8) (j : Nat) (h1 : 1 ≤ j) (h9 : j ≤ 9) : x = kindWord (j : Int) ↔ kindOf x = (j : Int) := by
 have hne : kindWord (j : Int) ≠ [] := by
  have : j = 1 ∨ j = 2 ∨ j = 3 ∨ j = 4 ∨ j = 5 ∨ j = 6 ∨ j = 7 ∨ j = 8 ∨ j = 9 := by omega
  rcases this with e | e | e | e | e | e | e | e | e <;> (subst e; decide)
 constructor
 ·
  intro e; rw [e]; exact kind_word _ hne
 ·
  intro e
  have := word_kind x (by omega)
  rw [e] at this; exact this.symm
theorem node_l1_go (x : List UInt8) (l : List (List UInt8)) : ∀ (m j k : Nat), 10 - j = m → 1 ≤ j → j ≤ 10 → (∀ y ∈ x :: l, m + y.length + 10 < k) →
  ∃ r, remontoirref17_node.l1 k ((x :: l).map S) kindsB (j : Int) (kdAt x j) 0 0 0 ⟨#[]⟩ = some r ∧ RNodeOk (nodeT x l) r := by
 intro m
 induction m with
 | zero =>
  intro j k hm h1 h10 hk
  obtain rfl : j = 10 := by omega
  have hkr := kindOf_in x
  refine node_l1_end x l (kdAt x 10) ?_ k (fun y hy => by have := hk y hy; omega) kindsB
  unfold kdAt
  split
  ·
   rfl
  ·
   omega
 | succ m ih =>
  intro j k hm h1 h10 hk
  obtain ⟨k, rfl⟩ : ∃ i, k = i + 1 := ⟨k - 1, by have := hk x (by simp); omega⟩
  have hr0 : rdOf ByteArray.empty ((x :: l).map S) 0 = S x := rfl
  rw [remontoirref17_node.l1, if_pos (by omega), if_pos (by rw [List.length_map, List.length_cons]; omega), if_pos (by omega), if_pos (by show (j : Int) < 10; omega), hr0, show rdOf ByteArray.empty kindsB (j : Int) = S (kindWord (j : Int)) from kinds_words j h1 (by omega), wrapS j (by omega)]
  have hih := ih (j + 1) k (by omega) (by omega) (by omega) (fun y hy => by have := hk y hy; omega)
  have he := kind_eq x j h1 (by omega)
  by_cases hx : x = kindWord (j : Int)
  ·
   rw [if_pos (by rw [hx])]
   have hkx := he.mp hx
   have : kdAt x (j + 1) = (j : Int) := by unfold kdAt; rw [if_pos (by omega), hkx]
   rw [this] at hih
   exact hih
  ·
   rw [if_neg (fun e => hx (S_inj ((text_eq _ _).mp e)))]
   have hkx : kindOf x ≠ (j : Int) := fun e => hx (he.mpr e)
   have : kdAt x (j + 1) = kdAt x j := by
    unfold kdAt
    by_cases hc : 1 ≤ kindOf x ∧ kindOf x < (j : Int)
    ·
     rw [if_pos hc, if_pos (by omega)]
    ·
     rw [if_neg hc, if_neg (by omega)]
   rw [this] at hih
   exact hih
theorem node_l0_go (ps : List (List UInt8)) (hps : ps ≠ []) (B : Nat) (hB : ∀ y ∈ ps, y.length ≤ B) (hn : ps.length ≤ 100000) : ∀ (m i k : Nat), ps.length - i = m → i ≤ ps.length → m + B + 30 < k →
  ∃ r, remontoirref17_node.l0 k (ps.map S) (i : Int) 0 0 0 0 ⟨#[]⟩ = some r ∧ RNodeOk (if allNe (ps.drop i) = true then nodeW ps else none) r := by
 intro m
 induction m with
 | zero =>
  intro i k hm hi hk
  obtain ⟨k, rfl⟩ : ∃ j, k = j + 1 := ⟨k - 1, by omega⟩
  rw [remontoirref17_node.l0, List.length_map, if_neg (by omega), List.drop_eq_nil_of_le (by omega), if_pos (show allNe [] = true from rfl)]
  match ps, hps, hB with
  | x :: l, _, hB =>
   have := node_l1_go x l 9 1 k rfl (Nat.le_refl _) (by omega) (fun y hy => by have := hB y hy; omega)
   have hk0 : kdAt x 1 = 0 := by unfold kdAt; rw [if_neg (by omega)]
   rw [hk0] at this
   exact this
 | succ m ih =>
  intro i k hm hi hk
  obtain ⟨k, rfl⟩ : ∃ j, k = j + 1 := ⟨k - 1, by omega⟩
  have hlt : i < ps.length := by omega
  rw [remontoirref17_node.l0, List.length_map, if_pos (by omega), if_pos (by omega), rdS ps i hlt, wrapS i (by omega)]
  have hd : allNe (ps.drop i) = (!ps[i].isEmpty && allNe (ps.drop (i + 1))) := by
   rw [List.drop_eq_getElem_cons hlt]; rfl
  by_cases he : ps[i] = []
  ·
   rw [if_pos ((empty_iff _).mpr he), hd, he]
   exact ⟨_, rfl, rfl⟩
  ·
   rw [if_neg (fun e => he ((empty_iff _).mp e)), hd]
   have : (!ps[i].isEmpty) = true := by
    cases hq : ps[i] with
    | nil => exact absurd hq he
    | cons a b => rfl
   rw [this, Bool.true_and]
   exact ih (i + 1) k (by omega) (by omega) (by omega)
theorem okW_line (l : List UInt8) (h : l.all okB = true) : (pieces 32 l).all okW = allNe (pieces 32 l) := by
 rw [okW_all, pieces_all 32 okWord okWord_32]
 have : l.all (fun d => d == 32 || okWord d) = true := List.all_eq_true.mpr fun d hd => by
  have := List.all_eq_true.mp h d hd
  unfold okB at this
  rw [Bool.and_eq_true, decide_eq_true_eq, decide_eq_true_eq] at this
  by_cases h32 : d = 32
  ·
   rw [h32]; rfl
  ·
   rw [beq_eq_false_iff_ne.mpr h32, Bool.false_or, okWord_iff]
   have : d.toNat ≠ 32 := fun e => h32 (UInt8.toNat_inj.mp e)
   omega
 rw [this, Bool.true_and]; rfl
theorem rnode_f (line : List UInt8) (h : line.all okB = true) (hl : line.length ≤ 6000) (k : Nat) (hk : 2 * line.length + 40 < k) :
  ∃ r, remontoirref17_node.f k ((pieces 32 line).map S) = some r ∧ RNodeOk (nodeL line) r := by
 unfold remontoirref17_node.f
 have hp := pieces_len 32 line
 obtain ⟨r, h1, h2⟩ := node_l0_go (pieces 32 line) (pieces_ne 32 line) line.length hp.1 (by omega) (pieces 32 line).length 0 k rfl (Nat.zero_le _) (by omega)
 refine ⟨r, h1, ?_⟩
 rw [List.drop_zero] at h2
 unfold nodeL
 rw [okW_line line h]
 exact h2
end Go.Proofs.YtpalncojmknlbaaDoor.Pure
