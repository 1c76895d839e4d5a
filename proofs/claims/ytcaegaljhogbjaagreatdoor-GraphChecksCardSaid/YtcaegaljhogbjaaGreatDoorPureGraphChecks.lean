/- GraphChecks: of every definition Check answers as the reference does. -/
import Derived.Test.YtcaegaljhogbjaaGreatDoorGraphMore
import Derived.Test.YtcaegaljhogbjaaGreatDoorRefNode
import Derived.Test.YtcaegaljhogbjaaGreatDoorYx5
import Derived.Test.YtcaegaljhogbjaaGreatDoorYx7
import Derived.Test.YtcaegaljhogbjaaGreatDoorRowDef
import Derived.Test.YtcaegaljhogbjaaGreatDoorLx1
set_option linter.unusedVariables false
set_option linter.unusedSectionVars false
namespace Go.Proofs.YtcaegaljhogbjaaGreatDoor.Gr
open Go.RowKit Go.Lib Go.Proofs.YtcaegaljhogbjaaGreatDoorW.PrintWords Go.Proofs.YtcaegaljhogbjaaGreatDoor.Y Go.Proofs.YtcaegaljhogbjaaGreatDoor.Z Go.Proofs.YtcaegaljhogbjaaGreatDoor.B Go.Proofs.YtcaegaljhogbjaaGreatDoor.Q

theorem ite_tot {α : Type} {p : Prop} [Decidable p] {x y : Option α} (h1 : ∃ t, x = some t) (h2 : ∃ t, y = some t) : ∃ t, (if p then x else y) = some t := by
 split
 ·
  exact h1
 ·
  exact h2
section
variable {l1 : List S38} {l2 : List S40} {s : ByteArray}
theorem outs_tot (hf : l2.length ≤ 1000000) (x : Int) : ∀ (m k i : Nat) (xs : List Int), i + m = l2.length → m < k → xs.length ≤ i → ∃ ys, zaf.l0 k x xs i s l1 l2 = some ys
 | m, 0, i, xs, _, h, _ => by omega
 | m, k + 1, i, xs, hm, hk, hx => by
  rw [zaf.l0]
  by_cases c : i < l2.length
  ·
   obtain ⟨m, rfl⟩ : ∃ d, m = d + 1 := ⟨m - 1, by omega⟩
   rw [if_pos (by omega), if_pos (by omega), wrapS i (by omega)]
   split
   ·
    rw [if_pos (by omega)]
    exact outs_tot hf x m k (i + 1) _ (by omega) (by omega) (by simp; omega)
   ·
    exact outs_tot hf x m k (i + 1) _ (by omega) (by omega) (by omega)
  ·
   rw [if_neg (by omega)]
   exact ⟨_, rfl⟩
theorem ins_tot (hf : l2.length ≤ 1000000) (x : Int) : ∀ (m k i : Nat) (xs : List Int), i + m = l2.length → m < k → xs.length ≤ i → ∃ ys, zan.l0 k x xs i s l1 l2 = some ys
 | m, 0, i, xs, _, h, _ => by omega
 | m, k + 1, i, xs, hm, hk, hx => by
  rw [zan.l0]
  by_cases c : i < l2.length
  ·
   obtain ⟨m, rfl⟩ : ∃ d, m = d + 1 := ⟨m - 1, by omega⟩
   rw [if_pos (by omega), if_pos (by omega), wrapS i (by omega)]
   split
   ·
    rw [if_pos (by omega)]
    exact ins_tot hf x m k (i + 1) _ (by omega) (by omega) (by simp; omega)
   ·
    exact ins_tot hf x m k (i + 1) _ (by omega) (by omega) (by omega)
  ·
   rw [if_neg (by omega)]
   exact ⟨_, rfl⟩
theorem inside_tot (hl : l1.length ≤ 1000000) (x : Int) : ∀ (m k i : Nat) (xs : List Int), i + m = l1.length → m < k → xs.length ≤ i → ∃ ys, zam.l0 k x xs i s l1 l2 = some ys ∧ ys.length ≤ l1.length
 | m, 0, i, xs, _, h, _ => by omega
 | m, k + 1, i, xs, hm, hk, hx => by
  rw [zam.l0]
  by_cases c : i < l1.length
  ·
   obtain ⟨m, rfl⟩ : ∃ d, m = d + 1 := ⟨m - 1, by omega⟩
   rw [if_pos (by omega), if_pos (by omega), wrapS i (by omega)]
   split
   ·
    rw [if_pos (by omega)]
    exact inside_tot hl x m k (i + 1) _ (by omega) (by omega) (by simp; omega)
   ·
    exact inside_tot hl x m k (i + 1) _ (by omega) (by omega) (by omega)
  ·
   rw [if_neg (by omega)]
   exact ⟨_, rfl, by omega⟩
theorem ends_l0_tot (hl : l1.length ≤ 1000000) (L : List Int) (hL : L.length ≤ 1000000) : ∀ (m k i : Nat) (a b : Int), i + m = L.length → m < k → ∃ t, zaj.l0 k a b L (L.length : Int) i s l1 l2 = some t
 | m, 0, i, a, b, _, h => by omega
 | m, k + 1, i, a, b, hm, hk => by
  rw [zaj.l0]
  by_cases c : i < L.length
  ·
   obtain ⟨m, rfl⟩ : ∃ d, m = d + 1 := ⟨m - 1, by omega⟩
   rw [if_pos (by omega), if_pos (by omega), if_pos (by omega), wrapS i (by omega)]
   simp only [kind_eq hl, Option.bind_some]
   split
   ·
    split
    ·
     exact ends_l0_tot hl L hL m k (i + 1) _ _ (by omega) (by omega)
    ·
     exact ends_l0_tot hl L hL m k (i + 1) _ _ (by omega) (by omega)
   ·
    split
    ·
     exact ends_l0_tot hl L hL m k (i + 1) _ _ (by omega) (by omega)
    ·
     exact ends_l0_tot hl L hL m k (i + 1) _ _ (by omega) (by omega)
  ·
   rw [if_neg (by omega)]
   split
   ·
    exact ⟨_, rfl⟩
   ·
    exact ⟨_, rfl⟩
theorem ends_tot (hl : l1.length ≤ 1000000) (n : Int) (k : Nat) (hk : l1.length < k) : ∃ t, zaj.f k s l1 l2 n = some t := by
 obtain ⟨L, hL, hn⟩ := inside_tot (s := s) (l2 := l2) hl n l1.length k 0 [] (by omega) hk (Nat.le_refl _)
 unfold zaj.f zam.f
 rw [show zam.l0 k n [] 0 s l1 l2 = some L from hL]
 simp only [Option.bind_some]
 exact ends_l0_tot hl L (by omega) L.length k 0 0 0 (by omega) (by omega)
theorem deep_tot (hl : l1.length ≤ 1000000) : ∀ (m k i : Nat) (n : Int), i + m = 60 → m < k → ∃ r, zal.l0 k n i s l1 l2 = some r
 | m, 0, i, n, _, h => by omega
 | m, k + 1, i, n, hm, hk => by
  rw [zal.l0, is_eq hl]
  simp only [Option.bind_some]
  by_cases c : inL l1 n
  ·
   obtain ⟨_, p, q⟩ := in_w hl c
   rw [if_pos (decide_eq_true c), if_pos p, if_pos q]
   split
   ·
    exact ⟨_, rfl⟩
   ·
    by_cases h6 : i < 60
    ·
     obtain ⟨m, rfl⟩ : ∃ d, m = d + 1 := ⟨m - 1, by omega⟩
     rw [if_pos (by omega), wrapS i (by omega)]
     exact deep_tot hl m k (i + 1) _ (by omega) (by omega)
    ·
     rw [if_neg (by omega)]
     exact ⟨_, rfl⟩
  ·
   rw [if_neg (by rw [decide_eq_false c]; decide)]
   exact ⟨_, rfl⟩
theorem degrees_tot (hl : l1.length ≤ 1000000) (hf : l2.length ≤ 1000000) (n : Int) (k : Nat) (hk : l2.length < k) : ∃ t, zah.f k s l1 l2 n = some t := by
 obtain ⟨is, hi⟩ := ins_tot (s := s) (l1 := l1) hf n l2.length k 0 [] (by omega) hk (Nat.le_refl _)
 obtain ⟨os, ho⟩ := outs_tot (s := s) (l1 := l1) hf n l2.length k 0 [] (by omega) hk (Nat.le_refl _)
 unfold zah.f zan.f zaf.f
 rw [show zan.l0 k n [] 0 s l1 l2 = some is from hi, show zaf.l0 k n [] 0 s l1 l2 = some os from ho, kind_eq hl]
 simp only [Option.bind_some]
 obtain ⟨k, rfl⟩ : ∃ d, k = d + 1 := ⟨k - 1, by omega⟩
 have hj : ∀ (a b c : Int) (d : Bool), ∃ t, zah.j0 (k + 1) a b c d = some t := by
  intro a b c d
  rw [zah.j0]
  repeat' (first | (with_reducible exact ⟨_, rfl⟩) | (with_reducible refine ite_tot ?_ ?_))
 exact ite_tot (hj _ _ _ _) (hj _ _ _ _)
theorem flow_tot (hl : l1.length ≤ 1000000) (hf : l2.length ≤ 1000000) {n : Int} (h1 : 1 ≤ n) (h2 : n ≤ (l2.length : Int)) (k : Nat) (hk : l2.length < k) : ∃ t, zap.f k s l1 l2 n = some t := by
 have e : wrap64 (n - 1) = n - 1 := by unfold wrap64; omega
 unfold zap.f
 rw [if_pos (by rw [e]; omega), kind_eq hl, kind_eq hl]
 simp only [Option.bind_some]
 obtain ⟨os, ho⟩ := outs_tot (s := s) (l1 := l1) hf (zbb l2 (wrap64 (n - 1))).f0 l2.length k 0 [] (by omega) hk (Nat.le_refl _)
 unfold zaf.f
 rw [show zaf.l0 k _ [] 0 s l1 l2 = some os from ho]
 exact ⟨_, rfl⟩
theorem c4_tot (hl : l1.length ≤ 100) : ∀ (m k i : Nat), i + m = l1.length + 1 → 6000 + m ≤ k → ∃ r, zac.l4 k i s l1 l2 = some r
 | m, 0, i, _, h => by omega
 | m, k + 1, i, hm, hk => by
  rw [zac.l4]
  by_cases c : i ≤ l1.length
  ·
   obtain ⟨m, rfl⟩ : ∃ d, m = d + 1 := ⟨m - 1, by omega⟩
   rw [if_pos (by omega), wrapS i (by omega)]
   obtain ⟨t, ht⟩ := deep_tot (s := s) (l2 := l2) (show l1.length ≤ 1000000 by omega) 60 k 0 i (by omega) (by omega)
   rw [show zal.f k s l1 l2 i = some t from ht]
   simp only [Option.bind_some]
   split
   ·
    exact ⟨_, rfl⟩
   ·
    exact c4_tot hl m k (i + 1) (by omega) (by omega)
  ·
   rw [if_neg (by omega)]
   exact ⟨_, rfl⟩
theorem c3_tot (hl : l1.length ≤ 100) : ∀ (m k i : Nat), i + m = l1.length + 1 → 6200 + m ≤ k → ∃ r, zac.l3 k i s l1 l2 = some r
 | m, 0, i, _, h => by omega
 | m, k + 1, i, hm, hk => by
  rw [zac.l3]
  by_cases c : i ≤ l1.length
  ·
   obtain ⟨m, rfl⟩ : ∃ d, m = d + 1 := ⟨m - 1, by omega⟩
   rw [if_pos (by omega), wrapS i (by omega)]
   obtain ⟨t, ht⟩ := ends_tot (s := s) (l2 := l2) (show l1.length ≤ 1000000 by omega) i k (by omega)
   rw [ht, ropens_eq (show l1.length ≤ 1000000 by omega)]
   simp only [Option.bind_some]
   have hn := c3_tot hl m k (i + 1) (by omega) (by omega)
   split
   ·
    split
    ·
     exact hn
    ·
     exact ⟨_, rfl⟩
   ·
    split
    ·
     split
     ·
      exact hn
     ·
      exact ⟨_, rfl⟩
    ·
     exact hn
  ·
   rw [if_neg (by omega)]
   exact c4_tot hl l1.length k 1 (by omega) (by omega)
theorem c2_tot (hl : l1.length ≤ 100) (hf : l2.length ≤ 150) : ∀ (m k i : Nat), i + m = l1.length + 1 → 6400 + m ≤ k → ∃ r, zac.l2 k i s l1 l2 = some r
 | m, 0, i, _, h => by omega
 | m, k + 1, i, hm, hk => by
  rw [zac.l2]
  by_cases c : i ≤ l1.length
  ·
   obtain ⟨m, rfl⟩ : ∃ d, m = d + 1 := ⟨m - 1, by omega⟩
   rw [if_pos (by omega), wrapS i (by omega)]
   obtain ⟨t, ht⟩ := degrees_tot (s := s) (show l1.length ≤ 1000000 by omega) (show l2.length ≤ 1000000 by omega) i k (by omega)
   rw [ht]
   simp only [Option.bind_some]
   split
   ·
    exact c2_tot hl hf m k (i + 1) (by omega) (by omega)
   ·
    exact ⟨_, rfl⟩
  ·
   rw [if_neg (by omega)]
   exact c3_tot hl (l1.length + 1) k 0 (by omega) (by omega)
theorem c1_tot (hl : l1.length ≤ 100) (hf : l2.length ≤ 150) : ∀ (m k i : Nat), 1 ≤ i → i + m = l2.length + 1 → 6600 + m ≤ k → ∃ r, zac.l1 k i s l1 l2 = some r
 | m, 0, i, _, _, h => by omega
 | m, k + 1, i, h1, hm, hk => by
  rw [zac.l1]
  by_cases c : i ≤ l2.length
  ·
   obtain ⟨m, rfl⟩ : ∃ d, m = d + 1 := ⟨m - 1, by omega⟩
   rw [if_pos (by omega), wrapS i (by omega)]
   obtain ⟨t, ht⟩ := flow_tot (s := s) (show l1.length ≤ 1000000 by omega) (show l2.length ≤ 1000000 by omega) (n := i) (by omega) (by omega) k (by omega)
   rw [ht]
   simp only [Option.bind_some]
   split
   ·
    exact c1_tot hl hf m k (i + 1) (by omega) (by omega) (by omega)
   ·
    exact ⟨_, rfl⟩
  ·
   rw [if_neg (by omega)]
   exact c2_tot hl hf l1.length k 1 (by omega) (by omega)
theorem nd_mem (hl : l1.length ≤ 1000000) {n : Int} (hn : inL l1 n) : nd l1 n ∈ l1 := by
 obtain ⟨_, p, q⟩ := in_w hl hn
 unfold nd zba
 rw [List.getD_eq_getElem?_getD, List.getElem?_eq_getElem (show (wrap64 (n - 1)).toNat < l1.length by omega)]
 exact List.getElem_mem _
theorem c0_tot (hl : l1.length ≤ 100) (hf : l2.length ≤ 150) (ha : ∀ x ∈ l1, x.f4.size ≤ 1000) : ∀ (m k i : Nat), 1 ≤ i → i + m = l1.length + 1 → 6800 + m ≤ k → ∃ r, zac.l0 k i s l1 l2 = some r
 | m, 0, i, _, _, h => by omega
 | m, k + 1, i, h1, hm, hk => by
  rw [zac.l0]
  by_cases c : i ≤ l1.length
  ·
   obtain ⟨m, rfl⟩ : ∃ d, m = d + 1 := ⟨m - 1, by omega⟩
   rw [if_pos (by omega), wrapS i (by omega)]
   have hn : inL l1 (i : Int) := ⟨by omega, by omega⟩
   have ht : zao.f k s l1 l2 i = some (nodeE l1 i (nd l1 i)) := by
    unfold zao.f
    rw [if_pos]
    simp only [Bool.and_eq_true, decide_eq_true_eq]
    exact ⟨⟨by omega, hn⟩, ha _ (nd_mem (by omega) hn)⟩
   rw [ht]
   simp only [Option.bind_some]
   split
   ·
    exact c0_tot hl hf ha m k (i + 1) (by omega) (by omega) (by omega)
   ·
    exact ⟨_, rfl⟩
  ·
   rw [if_neg (by omega)]
   exact c1_tot hl hf l2.length k 1 (by omega) (by omega) (by omega)
theorem check_tot (hl : l1.length ≤ 100) (hf : l2.length ≤ 150) (ha : ∀ x ∈ l1, x.f4.size ≤ 1000) (k : Nat) (hk : 7000 ≤ k) : ∃ r1 r2, zac.f k s l1 l2 = some (r1, r2) := by
 obtain ⟨k, rfl⟩ : ∃ d, k = d + 1 := ⟨k - 1, by omega⟩
 have h0 : ∀ b, ∃ r1 r2, zac.j0 (k + 1) b s l1 l2 = some (r1, r2) := by
  intro b
  rw [zac.j0]
  split
  ·
   exact ⟨_, _, rfl⟩
  ·
   obtain ⟨⟨r1, r2⟩, h⟩ := c0_tot (s := s) hl hf ha l1.length k 1 (Nat.le_refl _) (by omega) (by omega)
   exact ⟨r1, r2, h⟩
 unfold zac.f
 split
 ·
  exact h0 _
 ·
  split
  ·
   exact h0 _
  ·
   exact h0 _
/-! ### LightDef -/
theorem light_l1 (hf : l2.length ≤ 150) : ∀ (m k i : Nat), i + m = l2.length → m < k → ∃ b, zai.l1 k i s l1 l2 = some b
 | m, 0, i, _, h => by omega
 | m, k + 1, i, hm, hk => by
  rw [zai.l1]
  by_cases c : i < l2.length
  ·
   obtain ⟨m, rfl⟩ : ∃ d, m = d + 1 := ⟨m - 1, by omega⟩
   rw [if_pos (by omega), if_pos (by omega), wrapS i (by omega)]
   split
   ·
    exact ⟨_, rfl⟩
   ·
    exact light_l1 hf m k (i + 1) (by omega) (by omega)
  ·
   rw [if_neg (by omega)]
   exact ⟨_, rfl⟩
theorem light_l0 (hl : l1.length ≤ 100) (hf : l2.length ≤ 150) : ∀ (m k i : Nat), i + m = l1.length → 200 + m < k → ∃ b, zai.l0 k i s l1 l2 = some b ∧ (b = true → ∀ j : Nat, i ≤ j → j < l1.length → (zba l1 (j : Int)).f4.size ≤ 80)
 | m, 0, i, _, h => by omega
 | m, k + 1, i, hm, hk => by
  rw [zai.l0]
  by_cases c : i < l1.length
  ·
   obtain ⟨m, rfl⟩ : ∃ d, m = d + 1 := ⟨m - 1, by omega⟩
   rw [if_pos (by omega), if_pos (by omega), wrapS i (by omega)]
   by_cases h8 : (((zba l1 (i : Int)).f4).size : Int) > 80
   ·
    rw [if_pos h8]
    exact ⟨false, rfl, fun e => by cases e⟩
   ·
    rw [if_neg h8]
    obtain ⟨b, hb, h⟩ := light_l0 hl hf m k (i + 1) (by omega) (by omega)
    refine ⟨b, hb, fun e j hj hjl => ?_⟩
    by_cases e1 : j = i
    ·
     subst e1; omega
    ·
     exact h e j (by omega) hjl
  ·
   rw [if_neg (by omega)]
   obtain ⟨b, hb⟩ := light_l1 (s := s) (l1 := l1) hf l2.length k 0 (by omega) (by omega)
   exact ⟨b, hb, fun _ j hj hjl => by omega⟩
theorem light_tot (k : Nat) (hk : 400 ≤ k) : ∃ b, zai.f k s l1 l2 = some b ∧ (b = true → l1.length ≤ 70 ∧ l2.length ≤ 110 ∧ ∀ x ∈ l1, x.f4.size ≤ 80) := by
 obtain ⟨k, rfl⟩ : ∃ d, k = d + 1 := ⟨k - 1, by omega⟩
 unfold zai.f
 simp only [zai.j0]
 by_cases h1 : (l1.length : Int) > 70
 ·
  rw [if_pos h1]
  exact ⟨false, rfl, fun e => by cases e⟩
 ·
  rw [if_neg h1]
  by_cases h2 : (l2.length : Int) > 110
  ·
   rw [if_pos h2]
   exact ⟨false, rfl, fun e => by cases e⟩
  ·
   rw [if_neg h2]
   by_cases h3 : (s.size : Int) > 60
   ·
    rw [decide_eq_true h3]
    exact ⟨false, rfl, fun e => by cases e⟩
   ·
    rw [decide_eq_false h3, if_neg (by decide)]
    obtain ⟨b, hb, h⟩ := light_l0 (s := s) (show l1.length ≤ 100 by omega) (show l2.length ≤ 150 by omega) l1.length k 0 (by omega) (by omega)
    refine ⟨b, hb, fun e => ⟨by omega, by omega, fun x hx => ?_⟩⟩
    obtain ⟨j, hj, rfl⟩ := List.getElem_of_mem hx
    have := h e j (Nat.zero_le _) hj
    rw [rd38 hj] at this
    exact this
end
end Go.Proofs.YtcaegaljhogbjaaGreatDoor.Gr

namespace Go.Proofs.YtcaegaljhogbjaaGreatDoor.Pure
open Go.RowKit Go.Proofs.YtcaegaljhogbjaaGreatDoorW.PrintWords Go.Proofs.YtcaegaljhogbjaaGreatDoor.Y Go.Proofs.YtcaegaljhogbjaaGreatDoor.L Go.Proofs.YtcaegaljhogbjaaGreatDoor.Gr
set_option linter.unusedVariables false
theorem sized_ok {l1 : List S38} {l2 : List S40} (h1 : l1.length ≤ 1000000) (h2 : l2.length ≤ 1000000) (h3 : ∀ x ∈ l1, x.f4.size ≤ 1000) : sized l1 l2 = true := by
  unfold sized
  simp only [Bool.and_eq_true, decide_eq_true_eq, List.all_eq_true]
  exact ⟨⟨h1, h2⟩, h3⟩
theorem wakes_ok (k : Nat) (hk : 200 ≤ k) : zaw.f k = some true := LeO_max (f := zaw.f) zaw.mono zaw.ok hk
theorem checks (nm : ByteArray) (l1 : List S38) (l2 : List S40) : zax.f 8000 nm l1 l2 = some true := by
  unfold zax.f
  rw [wakes_ok 8000 (by decide)]
  obtain ⟨b, hb, h⟩ := light_tot (l1 := l1) (l2 := l2) (s := nm) 8000 (by decide)
  rw [hb]
  simp only [Option.bind_some]
  cases b with
  | false => rfl
  | true =>
    obtain ⟨h1, h2, h3⟩ := h rfl
    obtain ⟨r1, r2, hr⟩ := check_tot (l1 := l1) (l2 := l2) (s := nm) (by omega) (by omega) (fun x hx => by have := h3 x hx; omega) 8000 (by decide)
    unfold zbm.f
    rw [if_pos (sized_ok (by omega) (by omega) (fun x hx => by have := h3 x hx; omega)), hr]
    simp only [Option.bind_some, if_true]
theorem checks_walk (nm : ByteArray) (A1 : Option Addr) (c1 : Nat) (l1 : List S38) (A2 : Option Addr) (c2 : Nat) (l2 : List S40) (w : World) (hTab : Tab w) (hr1 : Kd.C k38 w A1 l1.length l1) (hc1 : l1.length ≤ c1) (hr2 : Kd.C k40 w A2 l2.length l2) (hc2 : l2.length ≤ c2) (o1 : ∀ n ∈ l1, Row.okV n.f0 n.f1 n.f2 n.f3 n.f4) (o2 : ∀ n ∈ l2, Row.okV n.f0 n.f1 n.f2 n.f3 n.f4) :
    Calls Tryz.prog 3 #[.agg #[.string nm, .slice A1 l1.length c1, .slice A2 l2.length c2]] w fun e w' => e = .returned (.bool true) ∧ Below w.heap.size w w' :=
  zax.calls _ nm A1 c1 l1 A2 c2 l2 true w hTab hr1 hc1 hr2 hc2 rfl (checks nm l1 l2)
end Go.Proofs.YtcaegaljhogbjaaGreatDoor.Pure
