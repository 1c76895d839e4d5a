/- The reference's cycle: what its printed Parse computes is what the plain one says. -/
import Derived.Test.YtjkdibkgmfnkdaaDoorQx5
import Derived.Test.YtjkdibkgmfnkdaaDoorSpanRef
import Derived.Test.YtjkdibkgmfnkdaaDoorCycSpec
namespace Go.Proofs.YtjkdibkgmfnkdaaDoor.Cyc
open Go.RowKit Go.Proofs.YtjkdibkgmfnkdaaDoorW.PrintWords Go.Proofs.YtjkdibkgmfnkdaaDoor.Ext Go.Proofs.YtjkdibkgmfnkdaaDoor.B Go.Proofs.YtjkdibkgmfnkdaaDoor.Q Go.Proofs.YtjkdibkgmfnkdaaDoor.Span
set_option linter.unusedVariables false

def V3 (r : Nat × Nat × Nat) : Option (Int × Int × Int) := some ((r.1 : Int), (r.2.1 : Int), (r.2.2 : Int))
theorem accum10 (v c : Nat) (hv : v < 1000000000000000) (h1 : 48 ≤ c) (h2 : c ≤ 57) : wrap64 (wrap64 (10 * (v : Int)) + ((c : Int) - 48) % 256) = ((v * 10 + (c - 48) : Nat) : Int) := by unfold wrap64; omega
theorem getD_cons (r : List UInt8) (j : Nat) : (82 :: r).getD (1 + j) 0 = r.getD j 0 := by rw [Nat.add_comm, List.getD_cons_succ]
/-- Behind the digits. -/
theorem r_j3 (r : List UInt8) (hl : r.length + 1 ≤ 140737488351232) (h47 : ¬ r.head? = some 47) (x6 : Int) (hx : nD r ≤ 8 → x6 = ((val (r.take (nD r)) : Nat) : Int)) (k : Nat) (hk : 2 * r.length + 30 < k) :
    remontoirref03_Parse.j3 k (S (82 :: r)) ((1 + nD r : Nat) : Int) x6 false 0 0 = V3 (cycR r) := by
  obtain ⟨k, rfl⟩ : ∃ i, k = i + 2 := ⟨k - 2, by omega⟩
  have hn := nD_le r
  have hsz : (S (82 :: r)).size = r.length + 1 := by rw [S_size]; rfl
  have yes : remontoirref03_Parse.j4 (k + 1) (S (82 :: r)) ((1 + nD r : Nat) : Int) x6 true 0 0 = V3 (0, 0, 2) := by simp only [remontoirref03_Parse.j4, if_true]; rfl
  have hb1 : bt (S (82 :: r)) 1 = (((r.getD 0 0).toNat : Nat) : Int) := S_bt (82 :: r) 1
  have hbk : bt (S (82 :: r)) ((1 + nD r : Nat) : Int) = (((r.getD (nD r) 0).toNat : Nat) : Int) := by rw [S_bt, getD_cons]
  have hw : wrap64 (((1 + nD r : Nat) : Int) + 1) = ((1 + nD r + 1 : Nat) : Int) := wrapS _ (by omega)
  simp only [remontoirref03_Parse.j3]
  rw [if_neg (by decide), hb1, hbk, hsz]
  unfold cycR
  rw [if_neg h47]
  by_cases c1 : nD r < 1
  · rw [if_pos (by omega), yes, if_pos (Or.inl c1)]
  · rw [if_neg (by omega)]
    by_cases c7 : 7 < nD r
    · rw [if_pos (by omega), yes, if_pos (Or.inr (Or.inl c7))]
    · rw [if_neg (by omega), if_pos (by omega)]
      by_cases c48 : r.getD 0 0 = 48
      · rw [if_pos ((is48 _).mpr c48), yes, if_pos (Or.inr (Or.inr (Or.inl c48)))]
      · rw [if_neg (fun h => c48 ((is48 _).mp h))]
        by_cases cl : nD r = r.length
        · rw [if_pos (by omega), yes, if_pos (Or.inr (Or.inr (Or.inr (Or.inl cl))))]
        · rw [if_neg (by omega), if_pos (by omega), if_pos (by omega)]
          by_cases cs : r.getD (nD r) 0 = 47
          · have hne : ((((r.getD (nD r) 0).toNat : Nat) : Int) != 47) = false := by rw [cs]; rfl
            have hv := hx (by omega)
            rw [hne, if_neg (show ¬ (nD r < 1 ∨ 7 < nD r ∨ r.getD 0 0 = 48 ∨ nD r = r.length ∨ r.getD (nD r) 0 ≠ 47) from fun h => h.elim c1 (fun h => h.elim c7 (fun h => h.elim c48 (fun h => h.elim cl (fun h => h cs)))))]
            simp only [remontoirref03_Parse.j4]
            rw [if_neg (by decide), hv, hw]
            by_cases cm : 1000000 < val (r.take (nD r))
            · rw [if_pos (by omega), if_pos cm]; rfl
            · have hdr : (82 :: r).drop (1 + nD r + 1) = r.drop (nD r + 1) := by rw [show 1 + nD r + 1 = nD r + 1 + 1 by omega, List.drop_succ_cons]
              have hex : (S (82 :: r)).extract (((1 + nD r + 1 : Nat) : Int).toNat) (S (82 :: r)).size = S (r.drop (nD r + 1)) := by rw [Int.toNat_natCast, S_from, hdr]
              rw [if_neg (by omega), if_neg cm, if_pos (by omega), if_pos (by rw [hsz]; omega), hex, ref_parse _ (by rw [List.length_drop]; omega) k (by rw [List.length_drop]; omega)]
              unfold Span.V
              rw [Option.bind_some]
              unfold tailC V3
              generalize r.drop (nD r + 1) = q
              by_cases d1 : (parseL q).2 = 0
              · rw [if_pos (by show (((parseL q).2 : Nat) : Int) = 0; omega), if_pos d1]
                by_cases d2 : (parseL q).1 = 0
                · rw [if_pos (by show (((parseL q).1 : Nat) : Int) = 0; omega), if_pos d2]; rfl
                · rw [if_neg (by show ¬ (((parseL q).1 : Nat) : Int) = 0; omega), if_neg d2]; rfl
              · rw [if_neg (by show ¬ (((parseL q).2 : Nat) : Int) = 0; omega), if_neg d1]; rfl
          · have hne : ((((r.getD (nD r) 0).toNat : Nat) : Int) != 47) = true := by
              rw [bne_iff_ne]; intro h; apply cs
              exact UInt8.toNat_inj.mp (by have h2 : (47 : UInt8).toNat = 47 := rfl
                                           rw [h2]; omega)
            rw [hne, yes, if_pos (Or.inr (Or.inr (Or.inr (Or.inr cs))))]
theorem r_l0 (r : List UInt8) (hl : r.length + 1 ≤ 140737488351232) (h47 : ¬ r.head? = some 47) :
    ∀ m j k : Nat, nD r - j = m → j ≤ nD r → 2 * m + 2 * r.length + 34 < k → ∀ x6 : Int, (j ≤ 8 → x6 = ((val (r.take j) : Nat) : Int)) →
      remontoirref03_Parse.l0 k (S (82 :: r)) ((1 + j : Nat) : Int) x6 0 0 = V3 (cycR r) := by
  have hn := nD_le r
  have hsz : (S (82 :: r)).size = r.length + 1 := by rw [S_size]; rfl
  intro m
  induction m with
  | zero =>
    intro j k hm hj hk x6 hx
    obtain rfl : j = nD r := by omega
    obtain ⟨k, rfl⟩ : ∃ i, k = i + 1 := ⟨k - 1, by omega⟩
    have key := r_j3 r hl h47 x6 hx k (by omega)
    simp only [remontoirref03_Parse.l0]
    by_cases h : nD r < r.length
    · have hd := nD_out r h
      rw [← Bool.not_eq_true, isD_iff] at hd
      rw [if_pos (by rw [hsz]; omega), if_pos (by omega), S_bt, getD_cons]
      split
      · rw [decide_eq_false (by intro h'; exact hd ⟨by assumption, h'⟩)]; exact key
      · exact key
    · rw [if_neg (by rw [hsz]; omega)]; exact key
  | succ m ih =>
    intro j k hm hj hk x6 hx
    obtain ⟨k, rfl⟩ : ∃ i, k = i + 2 := ⟨k - 2, by omega⟩
    have q1 : j < nD r := by omega
    have q2 : nD r - (j + 1) = m := by omega
    have q3 : 2 * m + 2 * r.length + 34 < k := by omega
    have q4 : j < r.length := by omega
    have q5 : 1 + j ≤ 200000000000000 := by omega
    have hd := (isD_iff _).mp (nD_in r j q1)
    have hb : 48 ≤ (r.getD j 0).toNat ∧ (r.getD j 0).toNat ≤ 57 := by omega
    have hw : wrap64 (((1 + j : Nat) : Int) + 1) = ((1 + (j + 1) : Nat) : Int) := wrapS _ q5
    have hbt : bt (S (82 :: r)) ((1 + j : Nat) : Int) = (((r.getD j 0).toNat : Nat) : Int) := by rw [S_bt, getD_cons]
    simp only [remontoirref03_Parse.l0]
    rw [if_pos (by rw [hsz]; omega), if_pos (by omega), hbt, if_pos (by omega), decide_eq_true (by omega)]
    simp only [remontoirref03_Parse.j3, if_true]
    rw [hbt, hw]
    by_cases h9 : j < 8
    · have hv := hx (by omega)
      have hval := val_lt (r.take j) (take_digits r j (by omega)) (by rw [List.length_take]; omega)
      have hs := val_snoc r j q4
      rw [if_pos (by omega), if_pos (by omega), if_pos (by rw [hsz]; omega), hv, accum10 _ _ hval hb.1 hb.2, ← hs]
      exact ih (j + 1) k q2 q1 q3 _ (fun _ => rfl)
    · rw [if_neg (by omega)]
      exact ih (j + 1) k q2 q1 q3 x6 (fun h => absurd h (by omega))
theorem ref_cyc (l : List UInt8) (hl : l.length ≤ 140737488351232) (k : Nat) (hk : 4 * l.length + 60 < k) : remontoirref03_Parse.f k (S l) = V3 (cycL l) := by
  obtain ⟨k, rfl⟩ : ∃ i, k = i + 2 := ⟨k - 2, by omega⟩
  have yes : remontoirref03_Parse.j0 (k + 2) (S l) true 0 0 = V3 (0, 0, 2) := by simp only [remontoirref03_Parse.j0, if_true]; rfl
  unfold remontoirref03_Parse.f
  cases l with
  | nil => rw [if_pos (by rw [S_size]; simp), yes]; rfl
  | cons d r =>
    have hsz : (S (d :: r)).size = r.length + 1 := by rw [S_size]; rfl
    have hb0 : bt (S (d :: r)) 0 = ((d.toNat : Nat) : Int) := S_bt (d :: r) 0
    rw [List.length_cons] at hl hk
    rw [if_neg (by rw [hsz]; omega), if_pos (by rw [hsz]; omega), hb0]
    by_cases hd : d = 82
    · subst hd
      have : ((((82 : UInt8).toNat : Nat) : Int) != 82) = false := rfl
      have hb1 : bt (S (82 :: r)) 1 = (((r.getD 0 0).toNat : Nat) : Int) := S_bt (82 :: r) 1
      rw [this, cyc_R]
      simp only [remontoirref03_Parse.j0]
      rw [if_neg (by decide), hb1, hsz]
      have go : ¬ r.head? = some 47 → remontoirref03_Parse.j1 (k + 1) (S (82 :: r)) false 0 0 = V3 (cycR r) := by
        intro h47
        simp only [remontoirref03_Parse.j1]
        rw [if_neg (by decide)]
        exact r_l0 r hl h47 (nD r) 0 k (by omega) (by omega) (by have := nD_le r; omega) 0 (fun _ => rfl)
      cases r with
      | nil => rw [if_neg (by simp)]; exact go (by simp)
      | cons e r =>
        rw [if_pos (by rw [List.length_cons]; omega), if_pos (by rw [List.length_cons]; omega), List.getD_cons_zero]
        by_cases he : e = 47
        · subst he
          have : ((((47 : UInt8).toNat : Nat) : Int) == 47) = true := rfl
          rw [this]
          simp only [remontoirref03_Parse.j1, if_true]
          unfold cycR
          rw [if_pos (show (47 :: r).head? = some 47 from rfl)]; rfl
        · have : (((e.toNat : Nat) : Int) == 47) = false := by
            rw [beq_eq_false_iff_ne]; intro h; apply he
            exact UInt8.toNat_inj.mp (by have h2 : (47 : UInt8).toNat = 47 := rfl
                                         rw [h2]; omega)
          rw [this]
          exact go (fun h => he (Option.some.inj h))
    · have hne : (((d.toNat : Nat) : Int) != 82) = true := by
        rw [bne_iff_ne]; intro h; apply hd
        exact UInt8.toNat_inj.mp (by have h2 : (82 : UInt8).toNat = 82 := rfl
                                     rw [h2]; omega)
      rw [hne, yes, cyc_no (d :: r) (fun h => hd (Option.some.inj h))]
end Go.Proofs.YtjkdibkgmfnkdaaDoor.Cyc
