/- The reference's cycle: what its printed Parse computes is what the plain one says. -/
import Derived.Test.YtcaegaljhogbjaaGreatDoorExtStr
import Derived.Test.YtcaegaljhogbjaaGreatDoorSpanRef
import Derived.Test.YtcaegaljhogbjaaGreatDoorQx2
import Derived.Test.YtcaegaljhogbjaaGreatDoorQx1
import Derived.Test.YtcaegaljhogbjaaGreatDoorExtSpan
import Derived.Test.YtcaegaljhogbjaaGreatDoorQx3
namespace Go.Proofs.YtcaegaljhogbjaaGreatDoor.Cyc
open Go.Proofs.YtcaegaljhogbjaaGreatDoor.Span Go.Proofs.YtcaegaljhogbjaaGreatDoor.Ext
set_option linter.unusedVariables false

def tailC (n : Nat) (q : List UInt8) : Nat × Nat × Nat :=
  if (parseL q).2 = 0 then (if (parseL q).1 = 0 then (0, 0, 6) else (n, (parseL q).1, 0)) else (0, 0, (parseL q).2)
def cycR (r : List UInt8) : Nat × Nat × Nat :=
  if r.head? = some 47 then (0, 0, 5)
  else if nD r < 1 ∨ 7 < nD r ∨ r.getD 0 0 = 48 ∨ nD r = r.length ∨ r.getD (nD r) 0 ≠ 47 then (0, 0, 2)
  else if 1000000 < val (r.take (nD r)) then (0, 0, 3)
  else tailC (val (r.take (nD r))) (r.drop (nD r + 1))
def cycL (l : List UInt8) : Nat × Nat × Nat :=
  match l with
  | 82 :: r => cycR r
  | _ => (0, 0, 2)
theorem cyc_R (r : List UInt8) : cycL (82 :: r) = cycR r := rfl
theorem cyc_no (l : List UInt8) (h : ¬ l.head? = some 82) : cycL l = (0, 0, 2) := by
  unfold cycL
  split
  · exact absurd rfl h
  · rfl
/-- At the first slash. -/
theorem cut_yes' (l : List UInt8) (c : UInt8) (h : (cutV l c).2.2 = true) : l = (cutV l c).1 ++ c :: (cutV l c).2.1 ∧ ∀ d ∈ (cutV l c).1, d ≠ c := by
  unfold cutV at *
  by_cases hn : Lib.indexByte l c < 0
  · rw [if_pos hn] at h; cases h
  · rw [if_neg hn]
    have hge := Lib.indexByte_ge l c
    obtain ⟨k, hk⟩ := Int.eq_ofNat_of_zero_le (show 0 ≤ Lib.indexByte l c by omega)
    have hlt := index_lt _ _ _ hk
    obtain ⟨h1, h2⟩ := Lib.indexByte_some hk
    rw [hk, Int.toNat_natCast]
    dsimp only
    constructor
    · have : l.drop k = c :: l.drop (k + 1) := by
        rw [List.drop_eq_getElem_cons hlt]
        congr 1
        rw [List.getElem?_eq_getElem hlt] at h1
        exact Option.some.inj h1
      rw [← this, List.take_append_drop]
    · intro d hd e
      obtain ⟨j, hj, hjd⟩ := List.mem_take_iff_getElem.mp hd
      apply h2 j (by omega)
      rw [List.getElem?_eq_getElem (by omega), hjd, e]
theorem cut_no' (l : List UInt8) (c : UInt8) (h : (cutV l c).2.2 = false) : (cutV l c).1 = l ∧ ∀ d ∈ l, d ≠ c := by
  unfold cutV at *
  by_cases hn : Lib.indexByte l c < 0
  · rw [if_pos hn]
    have hge := Lib.indexByte_ge l c
    have hi : Lib.indexByte l c = -1 := by omega
    refine ⟨rfl, fun d hd e => ?_⟩
    obtain ⟨j, hj, hjd⟩ := List.mem_iff_getElem.mp hd
    apply Lib.indexByte_none hi j
    rw [List.getElem?_eq_getElem hj, hjd, e]
  · rw [if_neg hn] at h; cases h
theorem nD_all (l : List UInt8) (h : ∀ c ∈ l, isD c = true) : nD l = l.length := by
  induction l with
  | nil => rfl
  | cons c l ih => rw [nD, if_pos (h c (by simp)), ih (fun d hd => h d (by simp [hd])), List.length_cons]
theorem nD_lt_of (l : List UInt8) (h : ¬ ∀ c ∈ l, isD c = true) : nD l < l.length := by
  induction l with
  | nil => exact absurd (by simp) h
  | cons c l ih =>
    by_cases hc : isD c = true
    · rw [nD, if_pos hc, List.length_cons]
      have := ih (fun h' => h (by intro d hd; rcases List.mem_cons.mp hd with rfl | hd; exact hc; exact h' d hd))
      omega
    · rw [nD, if_neg hc, List.length_cons]; omega
theorem getD_mem (l : List UInt8) (j : Nat) (h : j < l.length) : l.getD j 0 ∈ l := by
  rw [List.getD_eq_getElem?_getD, List.getElem?_eq_getElem h]; exact List.getElem_mem h
/-- Not all digits ahead of the slash (or no slash): no cycle. -/
theorem cyc_bad (r num : List UInt8) (q : List UInt8) (hr : r = num ++ q) (hq : q = [] ∨ ∃ t, q = 47 :: t) (hs : ∀ d ∈ num, d ≠ 47) (hnd : ¬ ∀ c ∈ num, isD c = true) : cycR r = (0, 0, 2) := by
  have hlt := nD_lt_of num hnd
  have hD : nD r = nD num := by rw [hr]; exact nD_append num q hlt
  have hg : r.getD (nD r) 0 = num.getD (nD num) 0 := by
    rw [hD, hr, List.getD_eq_getElem?_getD, List.getD_eq_getElem?_getD, List.getElem?_append_left hlt]
  have hne : r.getD (nD r) 0 ≠ 47 := by rw [hg]; exact hs _ (getD_mem num _ hlt)
  unfold cycR
  rw [if_neg, if_pos (Or.inr (Or.inr (Or.inr (Or.inr hne))))]
  intro e
  cases num with
  | nil => simp at hlt
  | cons d num =>
    rw [hr] at e
    exact hs d (by simp) (Option.some.inj e)
end Go.Proofs.YtcaegaljhogbjaaGreatDoor.Cyc

namespace Go.Proofs.YtcaegaljhogbjaaGreatDoor.Cyc
open Go.RowKit Go.Proofs.YtcaegaljhogbjaaGreatDoorW.PrintWords Go.Proofs.YtcaegaljhogbjaaGreatDoor.Ext Go.Proofs.YtcaegaljhogbjaaGreatDoor.B Go.Proofs.YtcaegaljhogbjaaGreatDoor.Q Go.Proofs.YtcaegaljhogbjaaGreatDoor.Span
set_option linter.unusedVariables false

theorem parse_at (l : List UInt8) (hl : l.length ≤ 140737488351232) : zbx.f (S l) = some (((parseL l).1 : Int), ((parseL l).2 : Int)) := by
 unfold zbx.f; rw [if_pos (by rw [S_size]; exact hl), S_list]
theorem pre_at (c : UInt8) (l : List UInt8) : stringslite_HasPrefix.f (S l) ⟨#[c]⟩ = some (l.head? == some c) := by
 have s1 : (⟨#[c]⟩ : ByteArray).size = 1 := rfl
 unfold stringslite_HasPrefix.f
 rw [s1]
 cases l with
 | nil => rw [if_neg (by rw [S_size]; simp)]; rfl
 | cons d l =>
  rw [if_pos (by rw [S_size, List.length_cons]; omega), if_pos (by omega), if_pos (by rw [S_size, List.length_cons]; omega)]
  refine congrArg some ?_
  have e1 : (S (d :: l)).extract 0 (((1 : Nat) : Int).toNat) = S [d] := S_upto (d :: l) 1
  rw [e1, Lib.toList_data, Lib.toList_data, S_list]
  show ([d] == [c]) = (some d == some c)
  by_cases h : d = c
  ·
   subst h; simp
  ·
   have : ([d] == [c]) = false := by rw [beq_eq_false_iff_ne]; intro e; exact h (List.cons.inj e).1
   rw [this]; symm; rw [beq_eq_false_iff_ne]; intro e; exact h (Option.some.inj e)
theorem cutp_yes (c : UInt8) (r : List UInt8) : strings_CutPrefix.f (S (c :: r)) ⟨#[c]⟩ = some (S r, true) := by
 have s1 : (⟨#[c]⟩ : ByteArray).size = 1 := rfl
 unfold strings_CutPrefix.f stringslite_CutPrefix.f
 rw [pre_at, Option.bind_some, s1, if_pos (by simp), if_pos (by omega), if_pos (by rw [S_size, List.length_cons]; omega), Option.bind_some]
 have e1 : (S (c :: r)).extract (((1 : Nat) : Int).toNat) (S (c :: r)).size = S r := S_from (c :: r) 1
 rw [e1]
theorem cutp_no (c : UInt8) (l : List UInt8) (h : ¬ l.head? = some c) : strings_CutPrefix.f (S l) ⟨#[c]⟩ = some (S l, false) := by
 have hb : (l.head? == some c) = false := by rw [beq_eq_false_iff_ne]; exact h
 unfold strings_CutPrefix.f stringslite_CutPrefix.f
 rw [pre_at, Option.bind_some, hb, if_neg (by decide), Option.bind_some]
theorem cut_at (l : List UInt8) (hl : l.length ≤ 140737488351232) (c : UInt8) : strings_Cut.f (S l) ⟨#[c]⟩ = some (S (cutV l c).1, S (cutV l c).2.1, (cutV l c).2.2) := by
 unfold strings_Cut.f
 rw [if_pos ⟨by rw [S_size]; exact hl, rfl⟩, S_list]; rfl
theorem wrapS (n : Nat) (h : n ≤ 200000000000000) : wrap64 ((n : Int) + 1) = ((n + 1 : Nat) : Int) := by unfold wrap64; omega
def V (r : Nat × Nat × Nat) : Option (Int × Int × Int) := some ((r.1 : Int), (r.2.1 : Int), (r.2.2 : Int))

theorem c_l0 (x4 : ByteArray) (num : List UInt8) (sl : Bool) (R : Option (Int × Int × Int)) (hl : num.length ≤ 140737488351232) (hbad : nD num < num.length → R = V (0, 0, 2))
  (hend : nD num = num.length → ∀ k, 1 ≤ k → (if sl = true then (if (((S num).size : Nat) : Int) > 7 then zav.j2 k x4 (S num) true else (if 0 < (((S num).size : Nat) : Int) then zav.j2 k x4 (S num) ((bt (S num) 0) == 48) else none)) else zav.j2 k x4 (S num) true) = R) :
  ∀ m j k : Nat, nD num - j = m → j ≤ nD num → m + 1 < k → zav.l0 k x4 (S num) sl ((num.length : Nat) : Int) j = R := by
 have hn := nD_le num
 intro m
 induction m with
 | zero =>
  intro j k hm hj hk
  obtain rfl : j = nD num := by omega
  obtain ⟨k, rfl⟩ : ∃ i, k = i + 1 := ⟨k - 1, by omega⟩
  simp only [zav.l0]
  by_cases h : nD num < num.length
  ·
   have hd := nD_out num h
   rw [← Bool.not_eq_true, isD_iff] at hd
   rw [if_pos (by omega), if_pos (by omega), if_pos (by rw [S_size]; omega), S_bt, hbad h]
   split
   ·
    rfl
   ·
    split
    ·
     rfl
    ·
     exfalso; apply hd; constructor <;> omega
  ·
   rw [if_neg (by omega)]
   exact hend (by omega) k (by omega)
 | succ m ih =>
  intro j k hm hj hk
  obtain ⟨k, rfl⟩ : ∃ i, k = i + 1 := ⟨k - 1, by omega⟩
  have hd := (isD_iff _).mp (nD_in num j (by omega))
  simp only [zav.l0]
  rw [if_pos (by omega), if_pos (by omega), if_pos (by rw [S_size]; omega), S_bt, if_neg (by omega), if_neg (by omega), wrapS j (by omega)]
  exact ih (j + 1) k (by omega) (by omega) (by omega)
theorem c_j2 (num q : List UInt8) (hq : q.length ≤ 140737488351232) (k : Nat) (hk : 1 ≤ k) (h1 : nD num = num.length) (h2 : num.length ≤ 7) (h3 : num ≠ []) :
  zav.j2 k (S q) (S num) false = if 1000000 < val num then V (0, 0, 3) else V (tailC (val num) q) := by
 obtain ⟨k, rfl⟩ : ∃ i, k = i + 1 := ⟨k - 1, by omega⟩
 have hd : ∀ c ∈ num, isD c = true := by
  have := take_isD num; rw [h1, List.take_length] at this; exact this
 have ha : strconv_Atoi.f (S num) = some (((val num : Nat) : Int), none) := by
  unfold strconv_Atoi.f
  rw [if_pos ⟨by rw [S_size]; omega, by rw [S_list]; exact h3, by rw [S_list, List.all_eq_true]; exact hd⟩, S_list]
 simp only [zav.j2]
 rw [if_neg (by decide), ha, Option.bind_some]
 by_cases h : 1000000 < val num
 ·
  rw [if_pos (by omega), if_pos h]; rfl
 ·
  rw [if_neg (by omega), if_neg h, parse_at q hq, Option.bind_some]
  unfold tailC V
  by_cases c1 : (parseL q).2 = 0
  ·
   rw [if_pos (by omega), if_pos c1]
   by_cases c2 : (parseL q).1 = 0
   ·
    rw [if_pos (by omega), if_pos c2]; rfl
   ·
    rw [if_neg (by omega), if_neg c2]; rfl
  ·
   rw [if_neg (by omega), if_neg c1]; rfl
theorem cyc_parse (l : List UInt8) (hl : l.length ≤ 140737488351232) (k : Nat) (hk : l.length + 4 < k) : zav.f k (S l) = V (cycL l) := by
 unfold zav.f
 by_cases hR : l.head? = some 82
 ·
  obtain ⟨r, rfl⟩ : ∃ r, l = 82 :: r := by
   cases l with
   | nil => cases hR
   | cons d r => exact ⟨r, by rw [Option.some.inj hR]⟩
  have hr : r.length ≤ 140737488351232 := by rw [List.length_cons] at hl; omega
  have hkr : r.length + 5 < k := by rw [List.length_cons] at hk; omega
  obtain ⟨k, rfl⟩ : ∃ i, k = i + 1 := ⟨k - 1, by omega⟩
  rw [cutp_yes, Option.bind_some, if_pos rfl, cut_at r hr, Option.bind_some, cyc_R]
  cases hs : (cutV r 47).2.2 with
  | true =>
   obtain ⟨e, hne⟩ := cut_yes' r 47 hs
   generalize (cutV r 47).1 = num at *
   generalize (cutV r 47).2.1 = q at *
   have hnl : num.length ≤ r.length := by rw [e, List.length_append]; omega
   have hql : q.length ≤ r.length := by rw [e, List.length_append, List.length_cons]; omega
   rw [if_pos rfl]
   simp only [zav.j0]
   by_cases h0 : num = []
   ·
    subst h0
    have : ((S ([] : List UInt8)).toList == ([] : List UInt8)) = true := by rw [Lib.toList_data, S_list]; rfl
    rw [this, if_pos rfl]
    unfold cycR
    rw [if_pos (by rw [e]; rfl)]; rfl
   ·
    have : ((S num).toList == ([] : List UInt8)) = false := by rw [Lib.toList_data, S_list, beq_eq_false_iff_ne]; exact h0
    rw [this, if_neg (by decide), S_size]
    have hh : ¬ r.head? = some 47 := by
     cases num with
     | nil => exact absurd rfl h0
     | cons d num => rw [e]; intro e2; exact hne d (by simp) (Option.some.inj e2)
    refine c_l0 (S q) num true (V (cycR r)) (by omega) ?_ ?_ (nD num) 0 k (by omega) (by omega) (by have := nD_le num; omega)
    ·
     intro hlt
     congr 1
     refine cyc_bad r num _ e (Or.inr ⟨q, rfl⟩) hne ?_
     intro hall; rw [nD_all num hall] at hlt; omega
    ·
     intro hall k hk1
     have hdig : ∀ c ∈ num, isD c = true := by have := take_isD num; rw [hall, List.take_length] at this; exact this
     have hD : nD r = num.length := by rw [e]; exact nD_app num hdig 47 rfl q
     have ht : r.take (nD r) = num := by rw [hD, e]; exact List.take_left' rfl
     have hg : r.getD (nD r) 0 = 47 := by
      rw [hD, e, List.getD_eq_getElem?_getD, List.getElem?_append_right (Nat.le_refl _)]; simp
     have hdr : r.drop (nD r + 1) = q := by rw [hD, e, List.drop_append]; simp
     have hg0 : r.getD 0 0 = num.getD 0 0 := by
      cases num with
      | nil => exact absurd rfl h0
      | cons d num => rw [e]; rfl
     have hlen : nD r ≠ r.length := by rw [hD, e, List.length_append, List.length_cons]; omega
     have h1 : 1 ≤ num.length := by
      cases num with
      | nil => exact absurd rfl h0
      | cons d num => rw [List.length_cons]; omega
     have hb0 : bt (S num) 0 = (((num.getD 0 0).toNat : Nat) : Int) := S_bt num 0
     have yes : zav.j2 k (S q) (S num) true = V (0, 0, 2) := by
      obtain ⟨k, rfl⟩ : ∃ i, k = i + 1 := ⟨k - 1, by omega⟩
      simp only [zav.j2, if_true]; rfl
     rw [if_pos rfl]
     unfold cycR
     rw [if_neg hh, ht, hdr, hD, hg0]
     by_cases c7 : 7 < num.length
     ·
      rw [if_pos (by rw [S_size]; omega), yes, if_pos (Or.inr (Or.inl c7))]
     ·
      rw [if_neg (by rw [S_size]; omega), if_pos (by rw [S_size]; omega), hb0]
      by_cases c48 : num.getD 0 0 = 48
      ·
       rw [c48, if_pos (Or.inr (Or.inr (Or.inl rfl)))]
       exact yes
      ·
       have : ((((num.getD 0 0).toNat : Nat) : Int) == 48) = false := by rw [beq_eq_false_iff_ne]; intro h; exact c48 ((is48 _).mp h)
       have hneg : ¬ (num.length < 1 ∨ 7 < num.length ∨ num.getD 0 0 = 48 ∨ num.length = r.length ∨ r.getD num.length 0 ≠ 47) := by
        rintro (h | h | h | h | h)
        ·
         omega
        ·
         omega
        ·
         exact c48 h
        ·
         rw [hD] at hlen; exact hlen h
        ·
         rw [hD] at hg; exact h hg
       rw [this, c_j2 num q (by omega) k hk1 hall (by omega) h0, if_neg hneg]
       split <;> rfl
  | false =>
   obtain ⟨e, hne⟩ := cut_no' r 47 hs
   rw [if_neg (by decide), e]
   simp only [zav.j0]
   rw [if_neg (by decide), S_size]
   have hR : cycR r = (0, 0, 2) := by
    unfold cycR
    rw [if_neg, if_pos]
    ·
     by_cases hx : nD r = r.length
     ·
      exact Or.inr (Or.inr (Or.inr (Or.inl hx)))
     ·
      exact Or.inr (Or.inr (Or.inr (Or.inr (hne _ (getD_mem r _ (by have := nD_le r; omega))))))
    ·
     intro e2
     cases r with
     | nil => cases e2
     | cons d r => exact hne d (by simp) (Option.some.inj e2)
   rw [hR]
   refine c_l0 _ r false (V (0, 0, 2)) hr (fun _ => rfl) ?_ (nD r) 0 k (by omega) (by omega) (by have := nD_le r; omega)
   intro _ k hk1
   obtain ⟨k, rfl⟩ : ∃ i, k = i + 1 := ⟨k - 1, by omega⟩
   rw [if_neg (by decide)]
   simp only [zav.j2, if_true]; rfl
 ·
  rw [cutp_no 82 l hR, Option.bind_some, if_neg (show ¬ (false = true) by decide), cyc_no l hR]; rfl
end Go.Proofs.YtcaegaljhogbjaaGreatDoor.Cyc

namespace Go.Proofs.YtcaegaljhogbjaaGreatDoor.Cyc
open Go.RowKit Go.Proofs.YtcaegaljhogbjaaGreatDoorW.PrintWords Go.Proofs.YtcaegaljhogbjaaGreatDoor.Ext Go.Proofs.YtcaegaljhogbjaaGreatDoor.B Go.Proofs.YtcaegaljhogbjaaGreatDoor.Q Go.Proofs.YtcaegaljhogbjaaGreatDoor.Span
set_option linter.unusedVariables false

def V3 (r : Nat × Nat × Nat) : Option (Int × Int × Int) := some ((r.1 : Int), (r.2.1 : Int), (r.2.2 : Int))
theorem accum10 (v c : Nat) (hv : v < 1000000000000000) (h1 : 48 ≤ c) (h2 : c ≤ 57) : wrap64 (wrap64 (10 * (v : Int)) + ((c : Int) - 48) % 256) = ((v * 10 + (c - 48) : Nat) : Int) := by unfold wrap64; omega
theorem getD_cons (r : List UInt8) (j : Nat) : (82 :: r).getD (1 + j) 0 = r.getD j 0 := by rw [Nat.add_comm, List.getD_cons_succ]
/-- Behind the digits. -/
theorem r_j3 (r : List UInt8) (hl : r.length + 1 ≤ 140737488351232) (h47 : ¬ r.head? = some 47) (x6 : Int) (hx : nD r ≤ 8 → x6 = ((val (r.take (nD r)) : Nat) : Int)) (k : Nat) (hk : 2 * r.length + 30 < k) :
  zab.j3 k (S (82 :: r)) ((1 + nD r : Nat) : Int) x6 false 0 0 = V3 (cycR r) := by
 obtain ⟨k, rfl⟩ : ∃ i, k = i + 2 := ⟨k - 2, by omega⟩
 have hn := nD_le r
 have hsz : (S (82 :: r)).size = r.length + 1 := by rw [S_size]; rfl
 have yes : zab.j4 (k + 1) (S (82 :: r)) ((1 + nD r : Nat) : Int) x6 true 0 0 = V3 (0, 0, 2) := by simp only [zab.j4, if_true]; rfl
 have hb1 : bt (S (82 :: r)) 1 = (((r.getD 0 0).toNat : Nat) : Int) := S_bt (82 :: r) 1
 have hbk : bt (S (82 :: r)) ((1 + nD r : Nat) : Int) = (((r.getD (nD r) 0).toNat : Nat) : Int) := by rw [S_bt, getD_cons]
 have hw : wrap64 (((1 + nD r : Nat) : Int) + 1) = ((1 + nD r + 1 : Nat) : Int) := wrapS _ (by omega)
 simp only [zab.j3]
 rw [if_neg (by decide), hb1, hbk, hsz]
 unfold cycR
 rw [if_neg h47]
 by_cases c1 : nD r < 1
 ·
  rw [if_pos (by omega), yes, if_pos (Or.inl c1)]
 ·
  rw [if_neg (by omega)]
  by_cases c7 : 7 < nD r
  ·
   rw [if_pos (by omega), yes, if_pos (Or.inr (Or.inl c7))]
  ·
   rw [if_neg (by omega), if_pos (by omega)]
   by_cases c48 : r.getD 0 0 = 48
   ·
    rw [if_pos ((is48 _).mpr c48), yes, if_pos (Or.inr (Or.inr (Or.inl c48)))]
   ·
    rw [if_neg (fun h => c48 ((is48 _).mp h))]
    by_cases cl : nD r = r.length
    ·
     rw [if_pos (by omega), yes, if_pos (Or.inr (Or.inr (Or.inr (Or.inl cl))))]
    ·
     rw [if_neg (by omega), if_pos (by omega), if_pos (by omega)]
     by_cases cs : r.getD (nD r) 0 = 47
     ·
      have hne : ((((r.getD (nD r) 0).toNat : Nat) : Int) != 47) = false := by rw [cs]; rfl
      have hv := hx (by omega)
      rw [hne, if_neg (show ¬ (nD r < 1 ∨ 7 < nD r ∨ r.getD 0 0 = 48 ∨ nD r = r.length ∨ r.getD (nD r) 0 ≠ 47) from fun h => h.elim c1 (fun h => h.elim c7 (fun h => h.elim c48 (fun h => h.elim cl (fun h => h cs)))))]
      simp only [zab.j4]
      rw [if_neg (by decide), hv, hw]
      by_cases cm : 1000000 < val (r.take (nD r))
      ·
       rw [if_pos (by omega), if_pos cm]; rfl
      ·
       have hdr : (82 :: r).drop (1 + nD r + 1) = r.drop (nD r + 1) := by rw [show 1 + nD r + 1 = nD r + 1 + 1 by omega, List.drop_succ_cons]
       have hex : (S (82 :: r)).extract (((1 + nD r + 1 : Nat) : Int).toNat) (S (82 :: r)).size = S (r.drop (nD r + 1)) := by rw [Int.toNat_natCast, S_from, hdr]
       rw [if_neg (by omega), if_neg cm, if_pos (by omega), if_pos (by rw [hsz]; omega), hex, ref_parse _ (by rw [List.length_drop]; omega) k (by rw [List.length_drop]; omega)]
       unfold Span.V
       rw [Option.bind_some]
       unfold tailC V3
       generalize r.drop (nD r + 1) = q
       by_cases d1 : (parseL q).2 = 0
       ·
        rw [if_pos (by show (((parseL q).2 : Nat) : Int) = 0; omega), if_pos d1]
        by_cases d2 : (parseL q).1 = 0
        ·
         rw [if_pos (by show (((parseL q).1 : Nat) : Int) = 0; omega), if_pos d2]; rfl
        ·
         rw [if_neg (by show ¬ (((parseL q).1 : Nat) : Int) = 0; omega), if_neg d2]; rfl
       ·
        rw [if_neg (by show ¬ (((parseL q).2 : Nat) : Int) = 0; omega), if_neg d1]; rfl
     ·
      have hne : ((((r.getD (nD r) 0).toNat : Nat) : Int) != 47) = true := by
       rw [bne_iff_ne]; intro h; apply cs
       exact UInt8.toNat_inj.mp (by have h2 : (47 : UInt8).toNat = 47 := rfl
                                    rw [h2]; omega)
      rw [hne, yes, if_pos (Or.inr (Or.inr (Or.inr (Or.inr cs))))]
theorem r_l0 (r : List UInt8) (hl : r.length + 1 ≤ 140737488351232) (h47 : ¬ r.head? = some 47) :
  ∀ m j k : Nat, nD r - j = m → j ≤ nD r → 2 * m + 2 * r.length + 34 < k → ∀ x6 : Int, (j ≤ 8 → x6 = ((val (r.take j) : Nat) : Int)) →
   zab.l0 k (S (82 :: r)) ((1 + j : Nat) : Int) x6 0 0 = V3 (cycR r) := by
 have hn := nD_le r
 have hsz : (S (82 :: r)).size = r.length + 1 := by rw [S_size]; rfl
 intro m
 induction m with
 | zero =>
  intro j k hm hj hk x6 hx
  obtain rfl : j = nD r := by omega
  obtain ⟨k, rfl⟩ : ∃ i, k = i + 1 := ⟨k - 1, by omega⟩
  have key := r_j3 r hl h47 x6 hx k (by omega)
  simp only [zab.l0]
  by_cases h : nD r < r.length
  ·
   have hd := nD_out r h
   rw [← Bool.not_eq_true, isD_iff] at hd
   rw [if_pos (by rw [hsz]; omega), if_pos (by omega), S_bt, getD_cons]
   split
   ·
    rw [decide_eq_false (by intro h'; exact hd ⟨by assumption, h'⟩)]; exact key
   ·
    exact key
  ·
   rw [if_neg (by rw [hsz]; omega)]; exact key
 | succ m ih =>
  intro j k hm hj hk x6 hx
  obtain ⟨k, rfl⟩ : ∃ i, k = i + 2 := ⟨k - 2, by omega⟩
  have q1 : j < nD r := by omega
  have q2 : nD r - (j + 1) = m := by omega
  have q3 : 2 * m + 2 * r.length + 34 < k := by omega
  have q4 : j < r.length := by omega
  have q5 : 1 + j ≤ 200000000000000 := by omega
  have hd := (isD_iff _).mp (nD_in r j q1)
  have hb : 48 ≤ (r.getD j 0).toNat ∧ (r.getD j 0).toNat ≤ 57 := by omega
  have hw : wrap64 (((1 + j : Nat) : Int) + 1) = ((1 + (j + 1) : Nat) : Int) := wrapS _ q5
  have hbt : bt (S (82 :: r)) ((1 + j : Nat) : Int) = (((r.getD j 0).toNat : Nat) : Int) := by rw [S_bt, getD_cons]
  simp only [zab.l0]
  rw [if_pos (by rw [hsz]; omega), if_pos (by omega), hbt, if_pos (by omega), decide_eq_true (by omega)]
  simp only [zab.j3, if_true]
  rw [hbt, hw]
  by_cases h9 : j < 8
  ·
   have hv := hx (by omega)
   have hval := val_lt (r.take j) (take_digits r j (by omega)) (by rw [List.length_take]; omega)
   have hs := val_snoc r j q4
   rw [if_pos (by omega), if_pos (by omega), if_pos (by rw [hsz]; omega), hv, accum10 _ _ hval hb.1 hb.2, ← hs]
   exact ih (j + 1) k q2 q1 q3 _ (fun _ => rfl)
  ·
   rw [if_neg (by omega)]
   exact ih (j + 1) k q2 q1 q3 x6 (fun h => absurd h (by omega))
theorem ref_cyc (l : List UInt8) (hl : l.length ≤ 140737488351232) (k : Nat) (hk : 4 * l.length + 60 < k) : zab.f k (S l) = V3 (cycL l) := by
 obtain ⟨k, rfl⟩ : ∃ i, k = i + 2 := ⟨k - 2, by omega⟩
 have yes : zab.j0 (k + 2) (S l) true 0 0 = V3 (0, 0, 2) := by simp only [zab.j0, if_true]; rfl
 unfold zab.f
 cases l with
 | nil => rw [if_pos (by rw [S_size]; simp), yes]; rfl
 | cons d r =>
  have hsz : (S (d :: r)).size = r.length + 1 := by rw [S_size]; rfl
  have hb0 : bt (S (d :: r)) 0 = ((d.toNat : Nat) : Int) := S_bt (d :: r) 0
  rw [List.length_cons] at hl hk
  rw [if_neg (by rw [hsz]; omega), if_pos (by rw [hsz]; omega), hb0]
  by_cases hd : d = 82
  ·
   subst hd
   have : ((((82 : UInt8).toNat : Nat) : Int) != 82) = false := rfl
   have hb1 : bt (S (82 :: r)) 1 = (((r.getD 0 0).toNat : Nat) : Int) := S_bt (82 :: r) 1
   rw [this, cyc_R]
   simp only [zab.j0]
   rw [if_neg (by decide), hb1, hsz]
   have go : ¬ r.head? = some 47 → zab.j1 (k + 1) (S (82 :: r)) false 0 0 = V3 (cycR r) := by
    intro h47
    simp only [zab.j1]
    rw [if_neg (by decide)]
    exact r_l0 r hl h47 (nD r) 0 k (by omega) (by omega) (by have := nD_le r; omega) 0 (fun _ => rfl)
   cases r with
   | nil => rw [if_neg (by simp)]; exact go (by simp)
   | cons e r =>
    rw [if_pos (by rw [List.length_cons]; omega), if_pos (by rw [List.length_cons]; omega), List.getD_cons_zero]
    by_cases he : e = 47
    ·
     subst he
     have : ((((47 : UInt8).toNat : Nat) : Int) == 47) = true := rfl
     rw [this]
     simp only [zab.j1, if_true]
     unfold cycR
     rw [if_pos (show (47 :: r).head? = some 47 from rfl)]; rfl
    ·
     have : (((e.toNat : Nat) : Int) == 47) = false := by
      rw [beq_eq_false_iff_ne]; intro h; apply he
      exact UInt8.toNat_inj.mp (by have h2 : (47 : UInt8).toNat = 47 := rfl
                                   rw [h2]; omega)
     rw [this]
     exact go (fun h => he (Option.some.inj h))
  ·
   have hne : (((d.toNat : Nat) : Int) != 82) = true := by
    rw [bne_iff_ne]; intro h; apply hd
    exact UInt8.toNat_inj.mp (by have h2 : (82 : UInt8).toNat = 82 := rfl
                                 rw [h2]; omega)
   rw [hne, yes, cyc_no (d :: r) (fun h => hd (Option.some.inj h))]
end Go.Proofs.YtcaegaljhogbjaaGreatDoor.Cyc
