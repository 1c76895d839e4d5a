/- DefMany: as many nodes and flows as may be, and one more. -/
import Derived.Test.YtpalncojmknlbaaDoorDefRowLaws
import Derived.Test.YtpalncojmknlbaaDoorYx19
namespace Go.Proofs.YtpalncojmknlbaaDoor.Pure
open Go.RowKit Go.Proofs.YtpalncojmknlbaaDoorW.PrintWords Go.Proofs.YtpalncojmknlbaaDoor.Ext Go.Proofs.YtpalncojmknlbaaDoor.A Go.Proofs.YtpalncojmknlbaaDoor.Y Go.Proofs.YtpalncojmknlbaaDoor.Span
set_option linter.unusedVariables false
set_option linter.unusedSimpArgs false

def lineP : List UInt8 := [112, 114, 111, 99, 101, 115, 115, 32, 112]
def lineA : List UInt8 := [97, 110, 100, 32, 48]
def lineF : List UInt8 := [102, 108, 111, 119, 32, 49, 32, 50]
def nodeA : S40 := ⟨6, 0, 0, 0, S []⟩
def flowF : S42 := ⟨1, 2, 0, 0, S []⟩
theorem nodeL_A : nodeL lineA = some nodeA := by kernel_rfl
theorem flowR_F : flowR (cutG 32 lineF).2.1 = some flowF := by kernel_rfl
theorem goA : ∀ (j i : Nat) (ns : List S40), ns.length ≤ 60 → goL i (ns, []) (List.replicate j lineA) = if ns.length + j ≤ 60 then .ok (ns ++ List.replicate j nodeA, []) else .error (i + (60 - ns.length) + 1, 15) := by
  intro j
  induction j with
  | zero => intro i ns h; rw [if_pos (by omega), List.replicate_zero, List.replicate_zero, List.append_nil, goL]
  | succ j ih =>
    intro i ns h
    have hs : stepL (ns, []) lineA = if 60 ≤ ns.length then .error 15 else .ok (ns ++ [nodeA], []) := by
      unfold stepL
      rw [if_neg (by decide), nodeL_A]
      rfl
    rw [List.replicate_succ, goL, hs]
    by_cases h6 : 60 ≤ ns.length
    · rw [if_pos h6, if_neg (by omega)]
      dsimp only
      rw [show 60 - ns.length = 0 by omega, Nat.add_zero]
    · rw [if_neg h6]
      dsimp only
      rw [ih (i + 1) (ns ++ [nodeA]) (by rw [List.length_append, List.length_singleton]; omega), List.length_append, List.length_singleton]
      by_cases hc : ns.length + (j + 1) ≤ 60
      · rw [if_pos (by omega), if_pos hc, List.append_assoc, List.replicate_succ]; rfl
      · rw [if_neg (by omega), if_neg hc]
        rw [show i + 1 + (60 - (ns.length + 1)) = i + (60 - ns.length) by omega]
theorem goF : ∀ (j i : Nat) (ns : List S40) (fs : List S42), fs.length ≤ 90 → goL i (ns, fs) (List.replicate j lineF) = if fs.length + j ≤ 90 then .ok (ns, fs ++ List.replicate j flowF) else .error (i + (90 - fs.length) + 1, 15) := by
  intro j
  induction j with
  | zero => intro i ns fs h; rw [if_pos (by omega), List.replicate_zero, List.replicate_zero, List.append_nil, goL]
  | succ j ih =>
    intro i ns fs h
    have hs : stepL (ns, fs) lineF = if 90 ≤ fs.length then .error 15 else .ok (ns, fs ++ [flowF]) := by
      unfold stepL
      rw [if_pos (by decide), flowR_F]
    rw [List.replicate_succ, goL, hs]
    by_cases h6 : 90 ≤ fs.length
    · rw [if_pos h6, if_neg (by omega)]
      dsimp only
      rw [show 90 - fs.length = 0 by omega, Nat.add_zero]
    · rw [if_neg h6]
      dsimp only
      rw [ih (i + 1) ns (fs ++ [flowF]) (by rw [List.length_append, List.length_singleton]; omega), List.length_append, List.length_singleton]
      by_cases hc : fs.length + (j + 1) ≤ 90
      · rw [if_pos (by omega), if_pos hc, List.append_assoc, List.replicate_succ]; rfl
      · rw [if_neg (by omega), if_neg hc]
        rw [show i + 1 + (90 - (fs.length + 1)) = i + (90 - fs.length) by omega]
def manyL (n m : Nat) : List (List UInt8) := lineP :: (List.replicate n lineA ++ List.replicate m lineF)
theorem unl_rep (x : List UInt8) (n : Nat) : (unl (List.replicate n x)).length = n * (x.length + 1) := by
  induction n with
  | zero => rw [List.replicate_zero, Nat.zero_mul]; rfl
  | succ n ih => rw [List.replicate_succ, unl_cons, List.length_append, List.length_cons, ih, Nat.add_mul]; omega
theorem many_len (n m : Nat) : (unl (manyL n m)).length = 10 + n * 6 + m * 9 := by
  unfold manyL
  rw [unl_cons, unl_append, List.length_append, List.length_cons, List.length_append, unl_rep, unl_rep]
  show 9 + (n * 6 + m * 9 + 1) = _
  omega
theorem many_ok (n m : Nat) : ∀ l ∈ manyL n m, l.all okB = true := by
  intro l hl
  unfold manyL at hl
  rcases List.mem_cons.1 hl with rfl | hl
  · decide
  rcases List.mem_append.1 hl with hl | hl
  · rw [List.eq_of_mem_replicate hl]; decide
  · rw [List.eq_of_mem_replicate hl]; decide
theorem many_parse (n m : Nat) (hn : n ≤ 61) (hm : m ≤ 91) : parseT (unl (manyL n m)) = if 60 < n then .error (62, 15) else if 90 < m then .error (n + 92, 15) else .ok ([112], (List.replicate n nodeA, List.replicate m flowF)) := by
  rw [parse_unl _ (many_ok n m) (by rw [many_len]; omega)]
  have hw : (cutG 32 lineP).1 = wProcess := by decide
  have hv : nameV (cutG 32 lineP).2.1 = true := by decide
  have hA := goA n 1 [] (by simp)
  have hg : goL 1 ([], []) (List.replicate n lineA ++ List.replicate m lineF) = _ := goL_append _ _ _ _
  rw [List.length_nil] at hA
  by_cases h6 : 60 < n
  · rw [if_neg (by omega)] at hA
    rw [hA] at hg
    rw [if_pos h6]
    exact parse_err hw hv _ hg
  · rw [if_pos (by omega), List.nil_append] at hA
    rw [hA] at hg
    dsimp only at hg
    rw [goF m _ _ [] (by simp), List.length_replicate, List.length_nil] at hg
    rw [if_neg h6]
    by_cases h9 : 90 < m
    · rw [if_neg (by omega)] at hg
      rw [if_pos h9]
      have := parse_err hw hv _ hg
      rw [show 1 + n + (90 - 0) + 1 = n + 92 by omega] at this
      exact this
    · rw [if_pos (by omega), List.nil_append] at hg
      rw [if_neg h9]
      exact parse_take (nm := ⟨#[]⟩) hw hv _ hg
theorem many_l1 (n m : Nat) (hn : n ≤ 61) (hm : m ≤ 91) : ∀ j i k : Nat, m - i = j → i ≤ m → j + 13010 < k → remontoirlaw17_DefMany.l1 k (n : Int) (m : Int) (S (unl (manyL n i))) (i : Int) = some true := by
  intro j
  induction j with
  | zero =>
    intro i k hj hi hk
    obtain ⟨k, rfl⟩ : ∃ j, k = j + 1 := ⟨k - 1, by omega⟩
    obtain rfl : i = m := by omega
    simp only [remontoirlaw17_DefMany.l1]
    rw [if_neg (by omega), parse_f _ k (by omega), Option.bind_some, wakes_ok k (by omega), many_parse n i hn hm]
    by_cases h6 : 60 < n
    · rw [if_pos h6, if_pos (by omega)]
      rfl
    · rw [if_neg h6, if_neg (by omega)]
      by_cases h9 : 90 < i
      · rw [if_pos h9, if_pos (by omega)]
        show (if ((15 : Int) = 15) then (if (((n + 92 : Nat) : Int) = wrap64 (wrap64 ((n : Int) + 90) + 2)) then (if ((([] : List S42).length : Int) = 0) then (some true).bind (fun t => some t) else some false) else some false) else some false) = _
        rw [if_pos rfl, if_pos (by unfold wrap64; omega)]; rfl
      · rw [if_neg h9, if_neg (by omega)]
        show (if ((0 : Int) = 0) then (if ((0 : Int) = 0) then (if (((List.replicate n nodeA).length : Int) = n) then (if (((List.replicate i flowF).length : Int) = i) then (some true).bind (fun t => some t) else some false) else some false) else some false) else some false) = _
        rw [if_pos rfl, if_pos rfl, List.length_replicate, List.length_replicate, if_pos rfl, if_pos rfl]; rfl
  | succ j ih =>
    intro i k hj hi hk
    obtain ⟨k, rfl⟩ : ∃ j, k = j + 1 := ⟨k - 1, by omega⟩
    simp only [remontoirlaw17_DefMany.l1]
    have hl := many_len n i
    rw [if_pos (by omega), S_size, hl, if_pos (by omega), wrapS i (by omega)]
    have e : (S (unl (manyL n i)) ++ ⟨#[102, 108, 111, 119, 32, 49, 32, 50, 10]⟩ : ByteArray) = S (unl (manyL n (i + 1))) := by
      have e1 : unl (manyL n (i + 1)) = unl (manyL n i) ++ [102, 108, 111, 119, 32, 49, 32, 50, 10] := by
        unfold manyL
        rw [List.replicate_succ', ← List.append_assoc, unl_cons, unl_cons, unl_append (_ ++ _) [lineF], List.append_assoc]; rfl
      rw [e1, ← S_append]; rfl
    rw [e]
    exact ih (i + 1) k (by omega) (by omega) (by omega)
theorem many_l0 (n m : Nat) (hn : n ≤ 61) (hm : m ≤ 91) : ∀ j i k : Nat, n - i = j → i ≤ n → j + 13200 < k → remontoirlaw17_DefMany.l0 k (n : Int) (m : Int) (S (unl (manyL i 0))) (i : Int) = some true := by
  intro j
  induction j with
  | zero =>
    intro i k hj hi hk
    obtain ⟨k, rfl⟩ : ∃ j, k = j + 1 := ⟨k - 1, by omega⟩
    obtain rfl : i = n := by omega
    simp only [remontoirlaw17_DefMany.l0]
    rw [if_neg (by omega)]
    exact many_l1 i m hn hm m 0 k (by omega) (by omega) (by omega)
  | succ j ih =>
    intro i k hj hi hk
    obtain ⟨k, rfl⟩ : ∃ j, k = j + 1 := ⟨k - 1, by omega⟩
    simp only [remontoirlaw17_DefMany.l0]
    have hl := many_len i 0
    rw [if_pos (by omega), S_size, hl, if_pos (by omega), wrapS i (by omega)]
    have e : (S (unl (manyL i 0)) ++ ⟨#[97, 110, 100, 32, 48, 10]⟩ : ByteArray) = S (unl (manyL (i + 1) 0)) := by
      have e1 : unl (manyL (i + 1) 0) = unl (manyL i 0) ++ [97, 110, 100, 32, 48, 10] := by
        unfold manyL
        rw [List.replicate_zero, List.append_nil, List.append_nil, List.replicate_succ', unl_cons, unl_cons, unl_append _ [lineA], List.append_assoc]; rfl
      rw [e1, ← S_append]; rfl
    rw [e]
    exact ih (i + 1) k (by omega) (by omega) (by omega)
theorem many (a b : Int) (ha : 0 ≤ a ∧ a ≤ 255) (hb : 0 ≤ b ∧ b ≤ 255) : remontoirlaw17_DefMany.f 20000 a b = some true := by
  unfold remontoirlaw17_DefMany.f
  have e1 : Int.tmod (wrap64 a) 62 = ((a.toNat % 62 : Nat) : Int) := by
    have : wrap64 a = a := by unfold wrap64; omega
    rw [this, Int.tmod_eq_emod_of_nonneg ha.1]; omega
  have e2 : Int.tmod (wrap64 b) 92 = ((b.toNat % 92 : Nat) : Int) := by
    have : wrap64 b = b := by unfold wrap64; omega
    rw [this, Int.tmod_eq_emod_of_nonneg hb.1]; omega
  rw [e1, e2]
  exact many_l0 _ _ (by omega) (by omega) (a.toNat % 62) 0 20000 (by omega) (Nat.zero_le _) (by omega)
theorem many_walk (a b : Int) (w : World) (hTab : Tab w) (ha : (Lit.int .u8 a).wf = true) (hb : (Lit.int .u8 b).wf = true) :
    Calls Tryd.prog 7 #[.int .u8 a, .int .u8 b] w fun e w' => e = .returned (.bool true) ∧ Below w.heap.size w w' :=
  remontoirlaw17_DefMany.calls 20000 a b true w hTab rfl (many a b (wf_u8 ha) (wf_u8 hb))
end Go.Proofs.YtpalncojmknlbaaDoor.Pure
