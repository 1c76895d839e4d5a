/- cycle.Parse: what its printed function computes is what the plain one says. -/
import Derived.Test.YtjkdibkgmfnkdaaDoorQx2
import Derived.Test.YtjkdibkgmfnkdaaDoorCycSpec
import Derived.Test.YtjkdibkgmfnkdaaDoorExtSpan
namespace Go.Proofs.YtjkdibkgmfnkdaaDoor.Cyc
open Go.RowKit Go.Proofs.YtjkdibkgmfnkdaaDoorW.PrintWords Go.Proofs.YtjkdibkgmfnkdaaDoor.Ext Go.Proofs.YtjkdibkgmfnkdaaDoor.B Go.Proofs.YtjkdibkgmfnkdaaDoor.Q Go.Proofs.YtjkdibkgmfnkdaaDoor.Span
set_option linter.unusedVariables false

theorem parse_at (l : List UInt8) (hl : l.length ≤ 140737488351232) : span_Parse.f (S l) = some (((parseL l).1 : Int), ((parseL l).2 : Int)) := by
  unfold span_Parse.f; rw [if_pos (by rw [S_size]; exact hl), S_list]
theorem pre_at (c : UInt8) (l : List UInt8) : stringslite_HasPrefix.f (S l) ⟨#[c]⟩ = some (l.head? == some c) := by
  have s1 : (⟨#[c]⟩ : ByteArray).size = 1 := rfl
  unfold stringslite_HasPrefix.f
  rw [s1]
  cases l with
  | nil => rw [if_neg (by rw [S_size]; simp)]; rfl
  | cons d l =>
    rw [if_pos (by rw [S_size, List.length_cons]; omega), if_pos (by omega), if_pos (by rw [S_size, List.length_cons]; omega)]
    refine congrArg some ?_
    have e1 : (S (d :: l)).extract 0 (((1 : Nat) : Int).toNat) = S [d] := S_upto (d :: l) 1
    rw [e1, Lib.toList_data, Lib.toList_data, S_list]
    show ([d] == [c]) = (some d == some c)
    by_cases h : d = c
    · subst h; simp
    · have : ([d] == [c]) = false := by rw [beq_eq_false_iff_ne]; intro e; exact h (List.cons.inj e).1
      rw [this]; symm; rw [beq_eq_false_iff_ne]; intro e; exact h (Option.some.inj e)
theorem cutp_yes (c : UInt8) (r : List UInt8) : strings_CutPrefix.f (S (c :: r)) ⟨#[c]⟩ = some (S r, true) := by
  have s1 : (⟨#[c]⟩ : ByteArray).size = 1 := rfl
  unfold strings_CutPrefix.f stringslite_CutPrefix.f
  rw [pre_at, Option.bind_some, s1, if_pos (by simp), if_pos (by omega), if_pos (by rw [S_size, List.length_cons]; omega), Option.bind_some]
  have e1 : (S (c :: r)).extract (((1 : Nat) : Int).toNat) (S (c :: r)).size = S r := S_from (c :: r) 1
  rw [e1]
theorem cutp_no (c : UInt8) (l : List UInt8) (h : ¬ l.head? = some c) : strings_CutPrefix.f (S l) ⟨#[c]⟩ = some (S l, false) := by
  have hb : (l.head? == some c) = false := by rw [beq_eq_false_iff_ne]; exact h
  unfold strings_CutPrefix.f stringslite_CutPrefix.f
  rw [pre_at, Option.bind_some, hb, if_neg (by decide), Option.bind_some]
theorem cut_at (l : List UInt8) (hl : l.length ≤ 140737488351232) (c : UInt8) : strings_Cut.f (S l) ⟨#[c]⟩ = some (S (cutV l c).1, S (cutV l c).2.1, (cutV l c).2.2) := by
  unfold strings_Cut.f
  rw [if_pos ⟨by rw [S_size]; exact hl, rfl⟩, S_list]; rfl
theorem wrapS (n : Nat) (h : n ≤ 200000000000000) : wrap64 ((n : Int) + 1) = ((n + 1 : Nat) : Int) := by unfold wrap64; omega
def V (r : Nat × Nat × Nat) : Option (Int × Int × Int) := some ((r.1 : Int), (r.2.1 : Int), (r.2.2 : Int))

theorem c_l0 (x4 : ByteArray) (num : List UInt8) (sl : Bool) (R : Option (Int × Int × Int)) (hl : num.length ≤ 140737488351232) (hbad : nD num < num.length → R = V (0, 0, 2))
    (hend : nD num = num.length → ∀ k, 1 ≤ k → (if sl = true then (if (((S num).size : Nat) : Int) > 7 then cycle_Parse.j2 k x4 (S num) true else (if 0 < (((S num).size : Nat) : Int) then cycle_Parse.j2 k x4 (S num) ((bt (S num) 0) == 48) else none)) else cycle_Parse.j2 k x4 (S num) true) = R) :
    ∀ m j k : Nat, nD num - j = m → j ≤ nD num → m + 1 < k → cycle_Parse.l0 k x4 (S num) sl ((num.length : Nat) : Int) j = R := by
  have hn := nD_le num
  intro m
  induction m with
  | zero =>
    intro j k hm hj hk
    obtain rfl : j = nD num := by omega
    obtain ⟨k, rfl⟩ : ∃ i, k = i + 1 := ⟨k - 1, by omega⟩
    simp only [cycle_Parse.l0]
    by_cases h : nD num < num.length
    · have hd := nD_out num h
      rw [← Bool.not_eq_true, isD_iff] at hd
      rw [if_pos (by omega), if_pos (by omega), if_pos (by rw [S_size]; omega), S_bt, hbad h]
      split
      · rfl
      · split
        · rfl
        · exfalso; apply hd; constructor <;> omega
    · rw [if_neg (by omega)]
      exact hend (by omega) k (by omega)
  | succ m ih =>
    intro j k hm hj hk
    obtain ⟨k, rfl⟩ : ∃ i, k = i + 1 := ⟨k - 1, by omega⟩
    have hd := (isD_iff _).mp (nD_in num j (by omega))
    simp only [cycle_Parse.l0]
    rw [if_pos (by omega), if_pos (by omega), if_pos (by rw [S_size]; omega), S_bt, if_neg (by omega), if_neg (by omega), wrapS j (by omega)]
    exact ih (j + 1) k (by omega) (by omega) (by omega)
theorem c_j2 (num q : List UInt8) (hq : q.length ≤ 140737488351232) (k : Nat) (hk : 1 ≤ k) (h1 : nD num = num.length) (h2 : num.length ≤ 7) (h3 : num ≠ []) :
    cycle_Parse.j2 k (S q) (S num) false = if 1000000 < val num then V (0, 0, 3) else V (tailC (val num) q) := by
  obtain ⟨k, rfl⟩ : ∃ i, k = i + 1 := ⟨k - 1, by omega⟩
  have hd : ∀ c ∈ num, isD c = true := by
    have := take_isD num; rw [h1, List.take_length] at this; exact this
  have ha : strconv_Atoi.f (S num) = some (((val num : Nat) : Int), none) := by
    unfold strconv_Atoi.f
    rw [if_pos ⟨by rw [S_size]; omega, by rw [S_list]; exact h3, by rw [S_list, List.all_eq_true]; exact hd⟩, S_list]
  simp only [cycle_Parse.j2]
  rw [if_neg (by decide), ha, Option.bind_some]
  by_cases h : 1000000 < val num
  · rw [if_pos (by omega), if_pos h]; rfl
  · rw [if_neg (by omega), if_neg h, parse_at q hq, Option.bind_some]
    unfold tailC V
    by_cases c1 : (parseL q).2 = 0
    · rw [if_pos (by omega), if_pos c1]
      by_cases c2 : (parseL q).1 = 0
      · rw [if_pos (by omega), if_pos c2]; rfl
      · rw [if_neg (by omega), if_neg c2]; rfl
    · rw [if_neg (by omega), if_neg c1]; rfl
theorem cyc_parse (l : List UInt8) (hl : l.length ≤ 140737488351232) (k : Nat) (hk : l.length + 4 < k) : cycle_Parse.f k (S l) = V (cycL l) := by
  unfold cycle_Parse.f
  by_cases hR : l.head? = some 82
  · obtain ⟨r, rfl⟩ : ∃ r, l = 82 :: r := by
      cases l with
      | nil => cases hR
      | cons d r => exact ⟨r, by rw [Option.some.inj hR]⟩
    have hr : r.length ≤ 140737488351232 := by rw [List.length_cons] at hl; omega
    have hkr : r.length + 5 < k := by rw [List.length_cons] at hk; omega
    obtain ⟨k, rfl⟩ : ∃ i, k = i + 1 := ⟨k - 1, by omega⟩
    rw [cutp_yes, Option.bind_some, if_pos rfl, cut_at r hr, Option.bind_some, cyc_R]
    cases hs : (cutV r 47).2.2 with
    | true =>
      obtain ⟨e, hne⟩ := cut_yes' r 47 hs
      generalize (cutV r 47).1 = num at *
      generalize (cutV r 47).2.1 = q at *
      have hnl : num.length ≤ r.length := by rw [e, List.length_append]; omega
      have hql : q.length ≤ r.length := by rw [e, List.length_append, List.length_cons]; omega
      rw [if_pos rfl]
      simp only [cycle_Parse.j0]
      by_cases h0 : num = []
      · subst h0
        have : ((S ([] : List UInt8)).toList == ([] : List UInt8)) = true := by rw [Lib.toList_data, S_list]; rfl
        rw [this, if_pos rfl]
        unfold cycR
        rw [if_pos (by rw [e]; rfl)]; rfl
      · have : ((S num).toList == ([] : List UInt8)) = false := by rw [Lib.toList_data, S_list, beq_eq_false_iff_ne]; exact h0
        rw [this, if_neg (by decide), S_size]
        have hh : ¬ r.head? = some 47 := by
          cases num with
          | nil => exact absurd rfl h0
          | cons d num => rw [e]; intro e2; exact hne d (by simp) (Option.some.inj e2)
        refine c_l0 (S q) num true (V (cycR r)) (by omega) ?_ ?_ (nD num) 0 k (by omega) (by omega) (by have := nD_le num; omega)
        · intro hlt
          congr 1
          refine cyc_bad r num _ e (Or.inr ⟨q, rfl⟩) hne ?_
          intro hall; rw [nD_all num hall] at hlt; omega
        · intro hall k hk1
          have hdig : ∀ c ∈ num, isD c = true := by have := take_isD num; rw [hall, List.take_length] at this; exact this
          have hD : nD r = num.length := by rw [e]; exact nD_app num hdig 47 rfl q
          have ht : r.take (nD r) = num := by rw [hD, e]; exact List.take_left' rfl
          have hg : r.getD (nD r) 0 = 47 := by
            rw [hD, e, List.getD_eq_getElem?_getD, List.getElem?_append_right (Nat.le_refl _)]; simp
          have hdr : r.drop (nD r + 1) = q := by rw [hD, e, List.drop_append]; simp
          have hg0 : r.getD 0 0 = num.getD 0 0 := by
            cases num with
            | nil => exact absurd rfl h0
            | cons d num => rw [e]; rfl
          have hlen : nD r ≠ r.length := by rw [hD, e, List.length_append, List.length_cons]; omega
          have h1 : 1 ≤ num.length := by
            cases num with
            | nil => exact absurd rfl h0
            | cons d num => rw [List.length_cons]; omega
          have hb0 : bt (S num) 0 = (((num.getD 0 0).toNat : Nat) : Int) := S_bt num 0
          have yes : cycle_Parse.j2 k (S q) (S num) true = V (0, 0, 2) := by
            obtain ⟨k, rfl⟩ : ∃ i, k = i + 1 := ⟨k - 1, by omega⟩
            simp only [cycle_Parse.j2, if_true]; rfl
          rw [if_pos rfl]
          unfold cycR
          rw [if_neg hh, ht, hdr, hD, hg0]
          by_cases c7 : 7 < num.length
          · rw [if_pos (by rw [S_size]; omega), yes, if_pos (Or.inr (Or.inl c7))]
          · rw [if_neg (by rw [S_size]; omega), if_pos (by rw [S_size]; omega), hb0]
            by_cases c48 : num.getD 0 0 = 48
            · rw [c48, if_pos (Or.inr (Or.inr (Or.inl rfl)))]
              exact yes
            · have : ((((num.getD 0 0).toNat : Nat) : Int) == 48) = false := by rw [beq_eq_false_iff_ne]; intro h; exact c48 ((is48 _).mp h)
              have hneg : ¬ (num.length < 1 ∨ 7 < num.length ∨ num.getD 0 0 = 48 ∨ num.length = r.length ∨ r.getD num.length 0 ≠ 47) := by
                rintro (h | h | h | h | h)
                · omega
                · omega
                · exact c48 h
                · rw [hD] at hlen; exact hlen h
                · rw [hD] at hg; exact h hg
              rw [this, c_j2 num q (by omega) k hk1 hall (by omega) h0, if_neg hneg]
              split <;> rfl
    | false =>
      obtain ⟨e, hne⟩ := cut_no' r 47 hs
      rw [if_neg (by decide), e]
      simp only [cycle_Parse.j0]
      rw [if_neg (by decide), S_size]
      have hR : cycR r = (0, 0, 2) := by
        unfold cycR
        rw [if_neg, if_pos]
        · by_cases hx : nD r = r.length
          · exact Or.inr (Or.inr (Or.inr (Or.inl hx)))
          · exact Or.inr (Or.inr (Or.inr (Or.inr (hne _ (getD_mem r _ (by have := nD_le r; omega))))))
        · intro e2
          cases r with
          | nil => cases e2
          | cons d r => exact hne d (by simp) (Option.some.inj e2)
      rw [hR]
      refine c_l0 _ r false (V (0, 0, 2)) hr (fun _ => rfl) ?_ (nD r) 0 k (by omega) (by omega) (by have := nD_le r; omega)
      intro _ k hk1
      obtain ⟨k, rfl⟩ : ∃ i, k = i + 1 := ⟨k - 1, by omega⟩
      rw [if_neg (by decide)]
      simp only [cycle_Parse.j2, if_true]; rfl
  · rw [cutp_no 82 l hR, Option.bind_some, if_neg (show ¬ (false = true) by decide), cyc_no l hR]; rfl
end Go.Proofs.YtjkdibkgmfnkdaaDoor.Cyc
