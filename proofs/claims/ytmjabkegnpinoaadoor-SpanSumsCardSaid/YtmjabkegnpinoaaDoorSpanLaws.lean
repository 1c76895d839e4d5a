/- Plain laws of durations: a numeral in front of a unit is read as that number; days, hours, minutes and seconds, each of which may be left out, last as long as they do together. No program in sight. -/
import Derived.Test.YtmjabkegnpinoaaDoorSpanSpec
namespace Go.Proofs.YtmjabkegnpinoaaDoor.Span

theorem valA_snoc (l : List UInt8) : ∀ (a : Nat) (c : UInt8), valA (l ++ [c]) a = valA l a * 10 + (c.toNat - 48) := by
  induction l with
  | nil => intro a c; rfl
  | cons d l ih => intro a c; rw [List.cons_append, valA_cons, valA_cons, ih]
theorem dig_toNat (d : Nat) (h : d < 10) : (UInt8.ofNat (48 + d)).toNat = 48 + d := by
  rw [UInt8.toNat_ofNat']; omega
theorem isD_dig (d : Nat) (h : d < 10) : isD (UInt8.ofNat (48 + d)) = true := by
  unfold isD; rw [dig_toNat d h, Bool.and_eq_true, decide_eq_true_eq, decide_eq_true_eq]; omega
theorem dec_digits (n : Nat) : ∀ c ∈ Lib.decDigits n, isD c = true := by
  induction n using Nat.strongRecOn with
  | _ n ih =>
    rw [Lib.decDigits]
    split
    · intro c hc
      rw [List.mem_singleton] at hc
      rw [hc]; exact isD_dig n (by omega)
    · rename_i h
      intro c hc
      rcases List.mem_append.mp hc with h1 | h1
      · exact ih (n / 10) (by omega) c h1
      · rw [List.mem_singleton] at h1
        rw [h1]; exact isD_dig _ (by omega)
theorem dec_val (n : Nat) : val (Lib.decDigits n) = n := by
  induction n using Nat.strongRecOn with
  | _ n ih =>
    unfold val at *
    rw [Lib.decDigits]
    split
    · rename_i h
      rw [valA_cons, valA_nil, dig_toNat n h]; omega
    · rename_i h
      rw [valA_snoc, ih (n / 10) (by omega), dig_toNat _ (by omega)]; omega
theorem dec_ne (n : Nat) : Lib.decDigits n ≠ [] := by
  rw [Lib.decDigits]
  split
  · simp
  · simp
/-- A numeral begins with 0 only if it is 0. -/
theorem dec_head (n : Nat) (h : 0 < n) : (Lib.decDigits n).getD 0 0 ≠ 48 := by
  induction n using Nat.strongRecOn with
  | _ n ih =>
    rw [Lib.decDigits]
    split
    · rename_i h9
      intro e
      have := congrArg UInt8.toNat (show UInt8.ofNat (48 + n) = 48 from e)
      rw [dig_toNat n h9] at this
      have h48 : (48 : UInt8).toNat = 48 := rfl
      omega
    · rename_i h9
      have hne := dec_ne (n / 10)
      have := ih (n / 10) (by omega) (by omega)
      cases hd : Lib.decDigits (n / 10) with
      | nil => exact absurd hd hne
      | cons c l => rw [hd] at this; exact this
theorem dec_len (n : Nat) : ∀ k, n < 10 ^ (k + 1) → (Lib.decDigits n).length ≤ k + 1 := by
  intro k
  induction k generalizing n with
  | zero => intro h; have h' : n < 10 := h; rw [Lib.decDigits_one h']; simp
  | succ k ih =>
    intro h
    rw [Lib.decDigits]
    split
    · simp
    · rw [List.length_append]
      have := ih (n / 10) (by rw [Nat.pow_succ] at h; omega)
      simp only [List.length_cons, List.length_nil]; omega
theorem nD_app (l : List UInt8) (h : ∀ c ∈ l, isD c = true) (u : UInt8) (hu : isD u = false) (r : List UInt8) : nD (l ++ u :: r) = l.length := by
  induction l with
  | nil => simp [nD, hu]
  | cons c l ih =>
    rw [List.cons_append, nD, if_pos (h c (by simp)), ih (fun d hd => h d (by simp [hd])), List.length_cons]
/-- A numeral with a unit behind it. -/
theorem next_dec (n : Nat) (hn : n < 1000000000000000) (u : UInt8) (hu : isD u = false) (r : List UInt8) : nextL (Lib.decDigits n ++ u :: r) = (n, u.toNat, r) := by
  have hd := nD_app _ (dec_digits n) u hu r
  have hl : (Lib.decDigits n).length ≤ 15 := dec_len n 14 (by rw [show (10 : Nat) ^ (14 + 1) = 1000000000000000 by decide]; exact hn)
  have h0 : 1 ≤ (Lib.decDigits n).length := by
    have := dec_ne n
    cases h : Lib.decDigits n with
    | nil => exact absurd h this
    | cons c l => simp
  unfold nextL
  rw [hd, if_neg]
  · rw [List.take_left', dec_val]
    · have e1 : (Lib.decDigits n ++ u :: r).getD (Lib.decDigits n).length 0 = u := by
        rw [List.getD_eq_getElem?_getD, List.getElem?_append_right (Nat.le_refl _)]; simp
      have e2 : (Lib.decDigits n ++ u :: r).drop ((Lib.decDigits n).length + 1) = r := by
        rw [List.drop_append]; simp
      rw [e1, e2]
    · rfl
  · rintro (h | h | h | ⟨h, h2⟩)
    · omega
    · omega
    · simp at h
    · by_cases hz : n = 0
      · subst hz; rw [Lib.decDigits_one (by omega)] at h2; simp at h2
      · apply dec_head n (by omega)
        cases hx : Lib.decDigits n with
        | nil => exact absurd hx (dec_ne n)
        | cons c l => rw [hx] at h; exact h
/-- A number with its unit, or nothing. -/
def optU (o : Option Nat) (c : UInt8) : List UInt8 :=
  match o with
  | none => []
  | some n => Lib.decDigits n ++ [c]
theorem optU_some (n : Nat) (c : UInt8) (r : List UInt8) : optU (some n) c ++ r = Lib.decDigits n ++ c :: r := by simp [optU]
theorem optU_none (c : UInt8) (r : List UInt8) : optU none c ++ r = r := rfl
theorem moreN_small (t n u : Nat) (h : t + n * u < 18446744073709551616) : moreN t n u = t + n * u := by
  unfold moreN heldN; rw [if_pos (by omega), if_pos h]
theorem part_step (k n : Nat) (hn : n < 1000000000000000) (c : UInt8) (hc : isD c = false) (r : List UInt8) (t : Nat) (p : Int) (hp : p < place c.toNat) (hs : t + n * unitN (place c.toNat) < 18446744073709551616) :
    partL (k + 1) (Lib.decDigits n ++ c :: r) t p = if r = [] then finN (t + n * unitN (place c.toNat)) else partL k r (t + n * unitN (place c.toNat)) (place c.toNat) := by
  rw [partL, next_dec n hn c hc r, if_neg (by show ¬ place c.toNat ≤ p; omega)]
  show (if r = [] then finN (moreN t n (unitN (place c.toNat))) else partL k r (moreN t n (unitN (place c.toNat))) (place c.toNat)) = _
  rw [moreN_small t n _ hs]
def oN (o : Option Nat) : Nat := match o with | none => 0 | some n => n
def small (o : Option Nat) : Prop := ∀ n, o = some n → n < 1000000000000000
theorem pl72 : place (72 : UInt8).toNat = 0 := rfl
theorem pl77 : place (77 : UInt8).toNat = 1 := rfl
theorem pl83 : place (83 : UInt8).toNat = 2 := rfl
theorem app_ne (n : Nat) (c : UInt8) (r : List UInt8) : Lib.decDigits n ++ c :: r ≠ [] := by simp
theorem un0 : unitN 0 = 3600 := rfl
theorem un1 : unitN 1 = 60 := rfl
theorem un2 : unitN 2 = 1 := rfl
/-- Seconds. -/
theorem part_s (k s t : Nat) (hs : s < 1000000000000000) (ht : t < 10000000000000000000) (p : Int) (hp : p < 2) : partL (k + 1) (Lib.decDigits s ++ [83]) t p = finN (t + s) := by
  rw [part_step k s hs 83 rfl [] t p (by rw [pl83]; exact hp) (by rw [pl83, un2]; omega), if_pos rfl, pl83, un2, Nat.mul_one]
theorem part_ms (k m t : Nat) (s : Option Nat) (hm : m < 1000000000000000) (hs : small s) (ht : t < 9000000000000000000) (p : Int) (hp : p < 1) : partL (k + 2) (Lib.decDigits m ++ 77 :: optU s 83) t p = finN (t + m * 60 + oN s) := by
  rw [part_step (k + 1) m hm 77 rfl _ t p (by rw [pl77]; exact hp) (by rw [pl77, un1]; omega), pl77, un1]
  cases s with
  | none => rw [if_pos (show optU none 83 = [] from rfl)]; rfl
  | some s => rw [if_neg (by simp [optU])]; exact part_s k s _ (hs s rfl) (by omega) 1 (by omega)
theorem part_hms (k h t : Nat) (m s : Option Nat) (hh : h < 1000000000000000) (hm : small m) (hs : small s) (ht : t < 5000000000000000000) (p : Int) (hp : p < 0) :
    partL (k + 3) (Lib.decDigits h ++ 72 :: (optU m 77 ++ optU s 83)) t p = finN (t + h * 3600 + oN m * 60 + oN s) := by
  rw [part_step (k + 2) h hh 72 rfl _ t p (by rw [pl72]; exact hp) (by rw [pl72, un0]; omega), pl72, un0]
  cases m with
  | none =>
    rw [optU_none]
    cases s with
    | none => rw [if_pos (show optU none 83 = [] from rfl)]; simp [oN]
    | some s => rw [if_neg (by simp [optU])]; refine (part_s (k + 1) s _ (hs s rfl) (by omega) 0 (by omega)).trans (by simp [oN])
  | some m =>
    rw [optU_some, if_neg (by simp)]
    exact part_ms k m _ s (hm m rfl) hs (by omega) 0 (by omega)
/-- The time behind the T: not all left out. -/
theorem part_opt (h m s : Option Nat) (t : Nat) (hh : small h) (hm : small m) (hs : small s) (ht : t < 5000000000000000000) (hne : h ≠ none ∨ m ≠ none ∨ s ≠ none) :
    partL 4 (optU h 72 ++ (optU m 77 ++ optU s 83)) t (-1) = finN (t + oN h * 3600 + oN m * 60 + oN s) := by
  cases h with
  | some h => rw [optU_some]; exact part_hms 1 h t m s (hh h rfl) hm hs ht (-1) (by omega)
  | none =>
    rw [optU_none]
    cases m with
    | some m => rw [optU_some]; refine (part_ms 2 m t s (hm m rfl) hs (by omega) (-1) (by omega)).trans (by simp [oN])
    | none =>
      rw [optU_none]
      cases s with
      | some s => refine (part_s 3 s t (hs s rfl) (by omega) (-1) (by omega)).trans (by simp [oN])
      | none => rcases hne with h | h | h <;> exact absurd rfl h
theorem head_dec (n : Nat) (r : List UInt8) (c : UInt8) (hc : isD c = false) : ¬ (Lib.decDigits n ++ r).head? = some c := by
  intro e
  cases hx : Lib.decDigits n with
  | nil => exact dec_ne n hx
  | cons d l =>
    rw [hx] at e
    have e' : d = c := by simpa using e
    have := dec_digits n d (by rw [hx]; simp)
    rw [e', hc] at this; cases this
theorem parse_P (r : List UInt8) : parseL (80 :: r) = if r.head? = some 84 then timeL r 0 else dateL r := rfl
theorem parse_week (n : Nat) (hn : n < 1000000000000) : parseL (80 :: (Lib.decDigits n ++ [87])) = finN (n * 604800) := by
  rw [parse_P, if_neg (head_dec n _ 84 rfl)]
  unfold dateL
  rw [next_dec n (by omega) 87 rfl []]
  show (if (87 : Nat) = 89 ∨ (87 : Nat) = 77 then (0, 4) else if (87 : Nat) = 87 then (if ([] : List UInt8) = [] then finN (moreN 0 n 604800) else (0, 2)) else _) = _
  rw [if_neg (by omega), if_pos rfl, if_pos rfl, moreN_small 0 n 604800 (by omega), Nat.zero_add]
/-- Days, and the time behind them. -/
theorem parse_opt (d h m s : Option Nat) (hd : ∀ n, d = some n → n < 50000000000000) (hh : small h) (hm : small m) (hs : small s) (hne : h ≠ none ∨ m ≠ none ∨ s ≠ none) :
    parseL (80 :: (optU d 68 ++ 84 :: (optU h 72 ++ (optU m 77 ++ optU s 83)))) = finN (oN d * 86400 + oN h * 3600 + oN m * 60 + oN s) := by
  cases d with
  | none =>
    rw [optU_none, parse_P, if_pos (show (84 :: (optU h 72 ++ (optU m 77 ++ optU s 83))).head? = some 84 from rfl)]
    show partL 4 _ 0 (-1) = _
    rw [part_opt h m s 0 hh hm hs (by omega) hne]; rfl
  | some d =>
    have hd' := hd d rfl
    rw [optU_some, parse_P, if_neg (head_dec d _ 84 rfl)]
    unfold dateL
    rw [next_dec d (by omega) 68 rfl]
    show (if (68 : Nat) = 89 ∨ (68 : Nat) = 77 then (0, 4) else if (68 : Nat) = 87 then _ else if (68 : Nat) = 68 then (if (84 :: (optU h 72 ++ (optU m 77 ++ optU s 83)) : List UInt8) = [] then finN (moreN 0 d 86400) else timeL (84 :: (optU h 72 ++ (optU m 77 ++ optU s 83))) (moreN 0 d 86400)) else (0, 2)) = _
    rw [if_neg (by omega), if_neg (by omega), if_pos rfl, if_neg (by simp), moreN_small 0 d 86400 (by omega), Nat.zero_add]
    show partL 4 _ (d * 86400) (-1) = _
    rw [part_opt h m s (d * 86400) hh hm hs (by omega) hne]; rfl
theorem parse_day (d : Nat) (hd : d < 50000000000000) : parseL (80 :: (Lib.decDigits d ++ [68])) = finN (d * 86400) := by
  rw [parse_P, if_neg (head_dec d _ 84 rfl)]
  unfold dateL
  rw [next_dec d (by omega) 68 rfl []]
  show (if (68 : Nat) = 89 ∨ (68 : Nat) = 77 then (0, 4) else if (68 : Nat) = 87 then _ else if (68 : Nat) = 68 then (if ([] : List UInt8) = [] then finN (moreN 0 d 86400) else _) else (0, 2)) = _
  rw [if_neg (by omega), if_neg (by omega), if_pos rfl, if_pos rfl, moreN_small 0 d 86400 (by omega), Nat.zero_add]

/-! ### What can be read is within the limit -/
theorem fin_le (t z : Nat) (h : finN t = (z, 0)) : z ≤ 1125899906842624 := by
  unfold finN at h
  split at h
  · cases h
  · cases h; omega
theorem part_le (k : Nat) : ∀ (l : List UInt8) (t : Nat) (p : Int) (z : Nat), partL k l t p = (z, 0) → z ≤ 1125899906842624 := by
  induction k with
  | zero => intro l t p z h; cases h
  | succ k ih =>
    intro l t p z h
    rw [partL] at h
    split at h
    · cases h
    · split at h
      · exact fin_le _ _ h
      · exact ih _ _ _ _ h
theorem time_le (l : List UInt8) (t z : Nat) (h : timeL l t = (z, 0)) : z ≤ 1125899906842624 := by
  unfold timeL at h
  split at h
  · exact part_le _ _ _ _ _ h
  · cases h
theorem parse_le (l : List UInt8) (z : Nat) (h : parseL l = (z, 0)) : z ≤ 1125899906842624 := by
  unfold parseL at h
  split at h
  · split at h
    · exact time_le _ _ _ h
    · unfold dateL at h
      split at h
      · cases h
      · split at h
        · split at h
          · exact fin_le _ _ h
          · cases h
        · split at h
          · split at h
            · exact fin_le _ _ h
            · exact time_le _ _ _ h
          · cases h
  · cases h
theorem fin_of (x : Nat) (h : x ≤ 1125899906842624) : finN x = (x, 0) := if_neg (by omega)
end Go.Proofs.YtmjabkegnpinoaaDoor.Span
