/- The reference's Text of a definition, walked by hand: its contract in the form that the kit's printer gives its own. -/
import Derived.Test.YtpalncojmknlbaaDoorDefWrite
import Derived.Test.YtpalncojmknlbaaDoorYx5
import Derived.Test.YtpalncojmknlbaaDoorYx6
set_option linter.unusedVariables false
set_option linter.unusedSimpArgs false
namespace Go.Proofs.YtpalncojmknlbaaDoor.Ext
open Go.RowKit Go.Lib Go.Sort Go.Maps Go.WideMaps Go.Proofs.YtpalncojmknlbaaDoorW.PrintWords Go.Proofs.YtpalncojmknlbaaDoorW.PrintLast Go.Proofs.YtpalncojmknlbaaDoorW.PrintMore Go.Proofs.YtpalncojmknlbaaDoor.Y Go.Proofs.YtpalncojmknlbaaDoor.Span
set_option linter.unusedVariables false
set_option linter.unusedSimpArgs false

/-- The digits of a number that is not below 0. -/
def digN (n : Int) : List UInt8 := Lib.decDigits n.toNat
def kindIn (n : S40) : Bool := decide (1 ≤ n.f0) && decide (n.f0 ≤ 9)
def rNodeEnd (n : S40) : List UInt8 := if n.f0 = 3 then 32 :: digN n.f2 else if n.f0 = 4 then 32 :: n.f4.data.toList else if n.f0 = 8 ∨ n.f0 = 9 then 32 :: digN n.f3 ++ 32 :: n.f4.data.toList else []
def rNode (n : S40) : List UInt8 := kindWord n.f0 ++ 32 :: digN n.f1 ++ rNodeEnd n ++ [10]
def rFlowEnd (f : S42) : List UInt8 := if f.f2 = 1 then 32 :: wDefault else if f.f2 = 2 then 32 :: wIf ++ 32 :: f.f4.data.toList else if f.f2 = 3 then 32 :: wAgain ++ 32 :: digN f.f3 ++ 32 :: wIf ++ 32 :: f.f4.data.toList else []
def rFlow (f : S42) : List UInt8 := wFlow ++ 32 :: digN f.f0 ++ 32 :: digN f.f1 ++ rFlowEnd f ++ [10]
def rHead (name : ByteArray) : List UInt8 := wProcess ++ 32 :: name.data.toList ++ [10]
def refText (name : ByteArray) (l : List S40) (m : List S42) : List UInt8 := if l.all kindIn = true then rHead name ++ l.flatMap rNode ++ m.flatMap rFlow else []
end Go.Proofs.YtpalncojmknlbaaDoor.Ext
namespace Go.Proofs.YtpalncojmknlbaaDoor.Y
open Go.RowKit Go.Proofs.YtpalncojmknlbaaDoorW.PrintWords Go.Proofs.YtpalncojmknlbaaDoor.Ext Go.Proofs.YtpalncojmknlbaaDoor.Span
def remontoirref17_Text.f (k : Nat) (a0_0 : ByteArray) (l0_1 : List S40) (l0_2 : List S42) : Option ByteArray :=
 if a0_0.size ≤ 1000000 ∧ l0_1.length ≤ 1000 ∧ l0_2.length ≤ 1000 ∧ l0_1.all okNode = true ∧ l0_2.all okFlow = true then some (S (refText a0_0 l0_1 l0_2)) else none
end Go.Proofs.YtpalncojmknlbaaDoor.Y
namespace Go.Proofs.YtpalncojmknlbaaDoor.Ext
open Go.RowKit Go.Lib Go.Sort Go.Maps Go.WideMaps Go.Proofs.YtpalncojmknlbaaDoorW.PrintWords Go.Proofs.YtpalncojmknlbaaDoorW.PrintLast Go.Proofs.YtpalncojmknlbaaDoorW.PrintMore Go.Proofs.YtpalncojmknlbaaDoor.Y Go.Proofs.YtpalncojmknlbaaDoor.Span
/-! ### The digits -/
theorem tstrOf_one (c : Int) : strOfNums [c] = S [UInt8.ofNat c.toNat] := rfl
theorem tdig_one (d : Nat) (h : d < 10) : strOfNums [(IntKind.u64.wrap (48 + (d : Int))) % 256] = S [UInt8.ofNat (48 + d)] := by
 have e : ((IntKind.u64.wrap (48 + (d : Int))) % 256).toNat = 48 + d := by rw [IntKind.wrap_u64]; omega
 rw [tstrOf_one, e]
theorem tdigits_go (k : Nat) : ∀ n : Nat, n < 10 ^ (k + 1) → n < 9223372036854775808 → remontoirref02_Digits.f (k + 1) n = some (S (Lib.decDigits n)) := by
 induction k with
 | zero =>
  intro n h _
  have c : n < 10 := h
  simp only [remontoirref02_Digits.f]
  rw [if_pos (by omega), Lib.decDigits_one c, tdig_one n c]
 | succ k ih =>
  intro n h h64
  rw [remontoirref02_Digits.f]
  by_cases c : n < 10
  ·
   rw [if_pos (by omega), Lib.decDigits_one c, tdig_one n c]
  ·
   have e1 : IntKind.u64.wrap (Int.tdiv (n : Int) 10) = ((n / 10 : Nat) : Int) := by
    rw [IntKind.wrap_u64, Int.tdiv_eq_ediv_of_nonneg (by omega)]; omega
   have e2 : Int.tmod (n : Int) 10 = ((n % 10 : Nat) : Int) := by rw [Int.tmod_eq_emod_of_nonneg (by omega)]; omega
   have hk : n / 10 < 10 ^ (k + 1) := by rw [Nat.pow_succ] at h; omega
   have hd : Lib.decDigits n = Lib.decDigits (n / 10) ++ [UInt8.ofNat (48 + n % 10)] := by rw [Lib.decDigits, dif_neg c]
   rw [if_neg (by omega), e1, e2, ih (n / 10) hk (by omega), Option.bind_some, Option.bind_some, tdig_one (n % 10) (by omega), hd, ← S_append]
   have hl := dec_len (n / 10) 18 (Nat.lt_of_le_of_lt (show n / 10 ≤ 9223372036854775807 by omega) (by decide))
   rw [if_pos (by rw [S_size, S_size]; simp only [List.length_cons, List.length_nil]; omega)]
theorem tdigits_f (n : Int) (h : inI n = true) : remontoirref17_digits.f 20 n = some (S (digN n)) := by
 have hn := (inI_iff n).mp h
 unfold remontoirref17_digits.f digN
 have e : IntKind.u64.wrap (mx n 0) = ((n.toNat : Nat) : Int) := by
  rw [IntKind.wrap_u64]; unfold mx; split <;> omega
 rw [e, tdigits_go 19 n.toNat (Nat.lt_of_le_of_lt (show n.toNat ≤ 9223372036854775807 by omega) (by decide)) (by omega)]; rfl
theorem digN_len {n : Int} (h : inI n = true) : (digN n).length ≤ 20 := by
 have hn := (inI_iff n).mp h
 have := dec_len n.toNat 18 (Nat.lt_of_le_of_lt (show n.toNat ≤ 9223372036854775807 by omega) (by decide))
 unfold digN; omega
theorem tdigits (n : Int) (h : inI n = true) (w : World) : Calls Tryd.prog 32 #[.int .i64 n] w fun e w' => e = .returned (.string (S (digN n))) ∧ Below w.heap.size w w' :=
 remontoirref17_digits.calls 20 n _ w (tdigits_f n h)
/-! ### The words of kinds -/
theorem twords (w : World) : Calls Tryd.prog 31 #[] w fun e w' => ∃ g c : Nat, e = .returned (.slice (some ⟨g, 0, none⟩) 10 c) ∧ (∀ k : Nat, 1 ≤ k → k ≤ 9 → w'.cell? ⟨g, k, none⟩ = some (.string (S (kindWord (k : Int))))) ∧ g < w'.heap.size ∧ 10 ≤ c ∧ c ≤ maxLen ∧ Below w.heap.size w w' := by
 refine (remontoirref17_words.calls _ w rfl).mono ?_
 rintro e w' ⟨v0, rfl, hr, hb⟩
 obtain ⟨g, c, cur, rfl, _, h1, h2, h3, h4⟩ := R_strs hr (by decide)
 refine ⟨g, c, rfl, fun k k1 k9 => ?_, blk_lt h3, h1, h2, hb⟩
 refine (blk_cell h3 k).trans (h4 k _ ?_)
 have : k = 1 ∨ k = 2 ∨ k = 3 ∨ k = 4 ∨ k = 5 ∨ k = 6 ∨ k = 7 ∨ k = 8 ∨ k = 9 := by omega
 rcases this with e | e | e | e | e | e | e | e | e <;> (subst e; rfl)
/-! ### The walk -/
def BaseT (w : World) (name : ByteArray) (A1 : Option Addr) (c1 n1 : Nat) (A2 : Option Addr) (c2 n2 : Nat) (wc : World) : Prop :=
 Aside0 (wc.heap[w.heap.size]? = some (.cells #[.string name, .slice A1 n1 c1, .slice A2 n2 c2] 25 (0, 0))) ∧ Aside0 (Below w.heap.size w wc)
def NstT (w : World) (name : ByteArray) (A1 : Option Addr) (c1 n1 : Nat) (A2 : Option Addr) (c2 n2 : Nat) (nb : Nat) (cs : Array Value) (T : TypeId) (wc : World) : Prop :=
 Aside0 (wc.heap[nb]? = some (.cells cs T (0, 0))) ∧ BaseT w name A1 c1 n1 A2 c2 n2 wc
section
variable {w : World} {name : ByteArray} {A1 : Option Addr} {c1 n1 : Nat} {A2 : Option Addr} {c2 n2 : Nat} {nb : Nat} {cs : Array Value} {T : TypeId} {wc w' : World}
theorem BaseT.below (h : BaseT w name A1 c1 n1 A2 c2 n2 wc) (hb : Below wc.heap.size wc w') : BaseT w name A1 c1 n1 A2 c2 n2 w' :=
 ⟨⟨blk_below h.1.out hb⟩, ⟨h.2.out.trans (Joins.below_le hb h.2.out.size)⟩⟩
theorem NstT.below (h : NstT w name A1 c1 n1 A2 c2 n2 nb cs T wc) (hb : Below wc.heap.size wc w') : NstT w name A1 c1 n1 A2 c2 n2 nb cs T w' :=
 ⟨⟨blk_below h.1.out hb⟩, h.2.below hb⟩
theorem NstT.drew (h : NstT w name A1 c1 n1 A2 c2 n2 nb cs T wc) : NstT w name A1 c1 n1 A2 c2 n2 nb cs T wc.drew := h.below (below_drew1 (Below.refl _ _))
end
theorem rnode_len (n : S40) (h : okNode n = true) (hk : kindIn n = true) : (rNode n).length ≤ 20000 := by
 obtain ⟨h0, h1, h2, h3, h4⟩ := (okNode_iff n).mp h
 rw [Lib.size_eq] at h4
 have a := digN_len h1
 have b := digN_len h2
 have c := digN_len h3
 have d : (kindWord n.f0).length ≤ 5 := by
  rcases word_cases n.f0 with e | e | e | e | e | e | e | e | e | e
  ·
   rw [e]; exact Nat.zero_le _
  all_goals (rw [e]; decide)
 have e : (rNodeEnd n).length ≤ 10100 := by
  unfold rNodeEnd
  split
  ·
   rw [List.length_cons]; omega
  ·
   split
   ·
    rw [List.length_cons]; omega
   ·
    split
    ·
     rw [List.length_append, List.length_cons, List.length_cons]; omega
    ·
     exact Nat.zero_le _
 unfold rNode
 simp only [List.length_append, List.length_cons, List.length_nil]
 omega
theorem rflow_len (f : S42) (h : okFlow f = true) : (rFlow f).length ≤ 20000 := by
 obtain ⟨h0, h1, h2, h3, h4⟩ := (okFlow_iff f).mp h
 rw [Lib.size_eq] at h4
 have z := digN_len h0
 have a := digN_len h1
 have c := digN_len h3
 have e : (rFlowEnd f).length ≤ 10100 := by
  unfold rFlowEnd
  split
  ·
   decide
  ·
   split
   ·
    simp only [List.length_append, List.length_cons, wIf]; simp only [List.length_nil]; omega
   ·
    split
    ·
     simp only [List.length_append, List.length_cons, wIf, wAgain]; simp only [List.length_nil]; omega
    ·
     exact Nat.zero_le _
 unfold rFlow
 simp only [List.length_append, List.length_cons, List.length_nil, wFlow]
 omega
theorem rnodes_len (l : List S40) (h : l.all okNode = true) (hk : l.all kindIn = true) : (l.flatMap rNode).length ≤ 20000 * l.length := by
 induction l with
 | nil => exact Nat.le_refl _
 | cons n l ih =>
  rw [List.all_cons, Bool.and_eq_true] at h hk
  have h1 := rnode_len n h.1 hk.1
  have h2 := ih h.2 hk.2
  rw [List.flatMap_cons, List.length_append, List.length_cons]; omega
theorem rflows_len (l : List S42) (h : l.all okFlow = true) : (l.flatMap rFlow).length ≤ 20000 * l.length := by
 induction l with
 | nil => exact Nat.le_refl _
 | cons n l ih =>
  rw [List.all_cons, Bool.and_eq_true] at h
  have h1 := rflow_len n h.1
  have h2 := ih h.2
  rw [List.flatMap_cons, List.length_append, List.length_cons]; omega
theorem rhead_len (name : ByteArray) : (rHead name).length = name.size + 9 := by
 unfold rHead
 rw [Lib.size_eq]
 simp only [List.length_append, List.length_cons, List.length_nil, wProcess]
 omega
theorem flat_take {α : Type} (f : α → List UInt8) (l : List α) (i : Nat) (h : i < l.length) : (l.take (i + 1)).flatMap f = (l.take i).flatMap f ++ f l[i] := by
 rw [List.take_succ_eq_append_getElem h, List.flatMap_append]; simp
end Go.Proofs.YtpalncojmknlbaaDoor.Ext
namespace Go.Proofs.YtpalncojmknlbaaDoor.Y
open Go.RowKit Go.Lib Go.Sort Go.Maps Go.WideMaps Go.Proofs.YtpalncojmknlbaaDoorW.PrintWords Go.Proofs.YtpalncojmknlbaaDoorW.PrintLast Go.Proofs.YtpalncojmknlbaaDoorW.PrintMore Go.Proofs.YtpalncojmknlbaaDoor.Ext Go.Proofs.YtpalncojmknlbaaDoor.Span
set_option maxHeartbeats 4000000 in
set_option maxRecDepth 100000 in
theorem remontoirref17_Text.calls (k : Nat) (a0_0 : ByteArray) (A0_1 : Option Addr) (c0_1 : Nat) (l0_1 : List S40) (A0_2 : Option Addr) (c0_2 : Nat) (l0_2 : List S42) (r : ByteArray) (w : World) (hr0_1 : Kd.C k40 w A0_1 l0_1.length l0_1) (hc0_1 : l0_1.length ≤ c0_1) (hr0_2 : Kd.C k42 w A0_2 l0_2.length l0_2) (hc0_2 : l0_2.length ≤ c0_2)
  (h : remontoirref17_Text.f k a0_0 l0_1 l0_2 = some r) :
  Calls Tryd.prog 18 #[.agg #[.string a0_0, .slice A0_1 l0_1.length c0_1, .slice A0_2 l0_2.length c0_2]] w fun e w' => e = .returned (.string r) ∧ Below w.heap.size w w' := by
 unfold remontoirref17_Text.f at h
 split at h
 case isFalse => cases h
 rename_i hc
 cases h
 have HR1 := Aside0.mk hr0_1
 have HR2 := Aside0.mk hr0_2
 have HC := Aside0.mk hc
 have s1 : a0_0.size ≤ 1000000 := hc.1
 have s2 : l0_1.length ≤ 1000 := hc.2.1
 have s3 : l0_2.length ≤ 1000 := hc.2.2.1
 clear hr0_1 hr0_2 hc
 have hu25 := Tryd.underlying25
 have hu40 := Tryd.underlying40
 have hu42 := Tryd.underlying42
 have z1 : (9223372036854775807 < 8 + a0_0.size) = False := eq_false (by omega)
 have z2 : (9223372036854775807 < 8 + a0_0.size + 1) = False := eq_false (by omega)
 go_enter Tryd.func18, Tryd.ntmps18
 go_upto_region 1 with fail
 have HB0 : BaseT w a0_0 A0_1 c0_1 l0_1.length A0_2 c0_2 l0_2.length (w.alloc (.cells #[.string a0_0, .slice A0_1 l0_1.length c0_1, .slice A0_2 l0_2.length c0_2] 25)) := ⟨⟨blk_new w _⟩, ⟨(Below.refl _ _).alloc (Nat.le_refl _) _⟩⟩
 go_cut [3] from 8 to 126 (fun v3 wc => v3 = .string (S (rHead a0_0)) ∧ BaseT w a0_0 A0_1 c0_1 l0_1.length A0_2 c0_2 l0_2.length wc)
 case first =>
  obtain ⟨b0, b1, b2⟩ : (w.alloc (.cells #[.string a0_0, .slice A0_1 l0_1.length c0_1, .slice A0_2 l0_2.length c0_2] 25)).cell? ⟨w.heap.size, 0, none⟩ = some (.string a0_0) ∧ True ∧ True := ⟨blk_cell HB0.1.out 0, trivial, trivial⟩
  have hh : (⟨#[112, 114, 111, 99, 101, 115, 115, 32]⟩ : ByteArray) ++ a0_0 ++ ⟨#[10]⟩ = S (rHead a0_0) := by
   have e := S_of a0_0
   have e1 : rHead a0_0 = ([112, 114, 111, 99, 101, 115, 115, 32] ++ a0_0.data.toList) ++ [10] := by unfold rHead; simp [wProcess]
   rw [e1, ← S_append, ← S_append, e]; rfl
  have HH := Aside0.mk hh
  clear hh
  go_wp2
  go_meet
  case rel => exact ⟨by rw [HH.out], HB0⟩
 case rest =>
  clear HB0
  obtain ⟨rfl, HBs⟩ := hcut
  rename_i K1 a1
  refine a1 _ _ ?_
  apply wp_seq_k
  intro _ _
  clear K1 a1 z1 z2
  go_cut [3] from 8 to 126 (fun v3 wc => v3 = .string (S (rHead a0_0 ++ l0_1.flatMap rNode)) ∧ Aside0 (l0_1.all kindIn = true) ∧ BaseT w a0_0 A0_1 c0_1 l0_1.length A0_2 c0_2 l0_2.length wc)
  case first =>
   go_wp2_with fail
   go_loopg [3, 4] (l0_1.length) (fun kq v3 v4 wr => ∃ i : Nat, v4 = .int .i64 (i : Int) ∧ v3 = .string (S (rHead a0_0 ++ (l0_1.take i).flatMap rNode)) ∧ Aside0 (kq + i = l0_1.length) ∧ Aside0 ((l0_1.take i).all kindIn = true) ∧ BaseT w a0_0 A0_1 c0_1 l0_1.length A0_2 c0_2 l0_2.length wr)
   case atStart => exact ⟨0, rfl, by rw [List.take_zero]; simp, ⟨rfl⟩, ⟨by rw [List.take_zero]; rfl⟩, HBs⟩
   case round =>
    obtain ⟨i, rfl, rfl, HF, HKI, HBs⟩ := hrel
    obtain ⟨b0, b1, b2⟩ : wr.cell? ⟨w.heap.size, 0, none⟩ = some (.string a0_0) ∧ wr.cell? ⟨w.heap.size, 1, none⟩ = some (.slice A0_1 l0_1.length c0_1) ∧ wr.cell? ⟨w.heap.size, 2, none⟩ = some (.slice A0_2 l0_2.length c0_2) := ⟨blk_cell HBs.1.out 0, blk_cell HBs.1.out 1, blk_cell HBs.1.out 2⟩
    by_cases hi : i < l0_1.length
    ·
     have hlt : decide ((i : Int) < (l0_1.length : Int)) = true := decide_eq_true (by omega)
     obtain ⟨ad, rfl, e0, e1, e2, e3, e4⟩ := at_T40 (Kd.C_below HR1.out HBs.2.out) (i : Int) (by omega) (by omega)
     have hnd : rd_T40 l0_1 (i : Int) = l0_1[i] := by unfold rd_T40; rw [Int.toNat_natCast, List.getD_eq_getElem?_getD, List.getElem?_eq_getElem hi]; rfl
     rw [Int.toNat_natCast, hnd] at e0 e1 e2 e3 e4
     have hin : l0_1[i] ∈ l0_1 := List.getElem_mem hi
     obtain ⟨n, hn⟩ : ∃ n, l0_1[i] = n := ⟨_, rfl⟩
     rw [hn] at e0 e1 e2 e3 e4 hin
     have OKN := Aside0.mk (List.all_eq_true.mp HC.out.2.2.2.1 n hin)
     have LEN := Aside0.mk (rnodes_len _ (allp_take okNode l0_1 i HC.out.2.2.2.1) HKI.out)
     have HNN := Aside0.mk (flat_take rNode l0_1 i hi)
     have HKT := Aside0.mk (show (l0_1.take (i + 1)).all kindIn = ((l0_1.take i).all kindIn && kindIn n) by rw [List.take_succ_eq_append_getElem hi, List.all_append, hn]; simp)
     rw [hn] at HNN
     have OKI := (okNode_iff n).mp OKN.out
     have HIN := Aside0.mk hin
     clear hn hin hnd
     by_cases hk : kindIn n = true
     ·
      have hk9 : 1 ≤ n.f0 ∧ n.f0 ≤ 9 := by
       unfold kindIn at hk; rw [Bool.and_eq_true, decide_eq_true_eq, decide_eq_true_eq] at hk; exact hk
      obtain ⟨kn, hkn⟩ := Int.eq_ofNat_of_zero_le (show 0 ≤ n.f0 by omega)
      have d1 : decide ((kn : Int) < 1) = false := decide_eq_false (by omega)
      have d2 : decide (9 < (kn : Int)) = false := decide_eq_false (by omega)
      have q1 : (kn : Int) < 10 := by omega
      have q2 : 0 ≤ (kn : Int) := by omega
      have q3 : kn < 10 := by omega
      have HQ := Aside0.mk (show 1 ≤ kn ∧ kn ≤ 9 by omega)
      rw [hkn] at e0
      have HKN := Aside0.mk (And.intro hkn hk)
      clear hkn hk hk9
      obtain ⟨tx, htx⟩ : ∃ tx, S (rHead a0_0 ++ (l0_1.take i).flatMap rNode) = tx := ⟨_, rfl⟩
      have HTX := Aside0.mk htx
      have htl : tx.size ≤ 100000000 := by
       rw [← htx, S_size, List.length_append, rhead_len]
       have h1 := LEN.out
       rw [List.length_take] at h1
       omega
      rw [htx]
      clear htx
      go_upto_region 8 with fail
      have N0 : NstT w a0_0 (some ad) c0_1 l0_1.length A0_2 c0_2 l0_2.length wr.heap.size #[.int .i64 (kn : Int), .int .i64 n.f1, .int .i64 n.f2, .int .i64 n.f3, .string n.f4] 40 (wr.alloc (.cells #[.int .i64 (kn : Int), .int .i64 n.f1, .int .i64 n.f2, .int .i64 n.f3, .string n.f4] 40)) := ⟨⟨blk_new wr _⟩, HBs.below ((Below.refl _ _).alloc (Nat.le_refl _) _)⟩
      go_cut [3, 5] from 24 to 75 (fun v3 v5 wc => ∃ (nb : Nat) (t2 : ByteArray), v5 = .pointer (some ⟨nb, 0, none⟩) ∧ v3 = .string t2 ∧ Aside0 (t2 = tx ++ S (kindWord (kn : Int) ++ 32 :: digN n.f1)) ∧ NstT w a0_0 (some ad) c0_1 l0_1.length A0_2 c0_2 l0_2.length nb #[.int .i64 (kn : Int), .int .i64 n.f1, .int .i64 n.f2, .int .i64 n.f3, .string n.f4] 40 wc)
      case first =>
       clear e0 e1 e2 e3 e4
       obtain ⟨kw, hkw⟩ : ∃ kw, S (kindWord (kn : Int)) = kw := ⟨_, rfl⟩
       obtain ⟨dg, hdg⟩ : ∃ dg, S (digN n.f1) = dg := ⟨_, rfl⟩
       have hkl : kw.size ≤ 10000 := by rw [← hkw, S_size]; exact kindWord_len _
       have hdl : dg.size ≤ 20 := by rw [← hdg, S_size]; exact digN_len OKI.2.1
       have hW : ∀ W, Calls Tryd.prog 31 #[] W fun e w' => ∃ g c : Nat, e = .returned (.slice (some ⟨g, 0, none⟩) 10 c) ∧ w'.cell? ⟨g, kn, none⟩ = some (.string kw) ∧ g < w'.heap.size ∧ 10 ≤ c ∧ c ≤ maxLen ∧ Below W.heap.size W w' := fun W => (twords W).mono (fun e w' ⟨g, c, h1, h2, h3, h4, h5, h6⟩ => ⟨g, c, h1, by rw [h2 kn HQ.out.1 HQ.out.2, hkw], h3, h4, h5, h6⟩)
       have hD : ∀ W, Calls Tryd.prog 32 #[.int .i64 n.f1] W fun e w' => e = .returned (.string dg) ∧ Below W.heap.size W w' := fun W => by rw [← hdg]; exact tdigits n.f1 OKI.2.1 W
       have HR := Aside0.mk (show tx ++ (kw ++ ⟨#[32]⟩ ++ dg) = tx ++ S (kindWord (kn : Int) ++ 32 :: digN n.f1) by
        rw [List.append_cons, ← S_append, ← S_append, hkw, hdg]; rfl)
       have HW := Aside0.mk hW
       have HD := Aside0.mk hD
       have y1 : (9223372036854775807 < kw.size + 1) = False := eq_false (by omega)
       have y2 : (9223372036854775807 < kw.size + 1 + dg.size) = False := eq_false (by omega)
       have y3 : (9223372036854775807 < tx.size + (kw.size + 1 + dg.size)) = False := eq_false (by omega)
       clear hkw hdg hW hD
       have ND := N0.drew
       obtain ⟨d0, d1, d2, d3, d4, d5, d6, d7, d8, d9⟩ := five_cells ND.1.out
       go_region_with (first
        | (go_at_call 31; first
          | ((with_reducible refine (HW.out (World.drew (World.alloc wr (.cells #[.int .i64 (kn : Int), .int .i64 n.f1, .int .i64 n.f2, .int .i64 n.f3, .string n.f4] 40)))).mono ?_); rintro e w1 ⟨g, c, rfl, hcw, hgl, hc1, hc2, hb1⟩; have N1 := ND.below hb1; obtain ⟨x0, x1, x2, x3, x4, x5, x6, x7, x8, x9⟩ := five_cells N1.1.out)
          | ((with_reducible refine (HW.out w1).mono ?_); rintro e w2 ⟨g, c, rfl, hcw, hgl, hc1, hc2, hb2⟩; have N2 := N1.below hb2; obtain ⟨y0, y1, y2, y3, y4, y5, y6, y7, y8, y9⟩ := five_cells N2.1.out))
        | (go_at_call 32; first
          | ((with_reducible refine (HD.out (World.drew (World.alloc wr (.cells #[.int .i64 (kn : Int), .int .i64 n.f1, .int .i64 n.f2, .int .i64 n.f3, .string n.f4] 40)))).mono ?_); rintro e w1 ⟨rfl, hb1⟩; have N1 := ND.below hb1; obtain ⟨x0, x1, x2, x3, x4, x5, x6, x7, x8, x9⟩ := five_cells N1.1.out)
          | ((with_reducible refine (HD.out w1).mono ?_); rintro e w2 ⟨rfl, hb2⟩; have N2 := N1.below hb2; obtain ⟨y0, y1, y2, y3, y4, y5, y6, y7, y8, y9⟩ := five_cells N2.1.out; have hcw2 := (hb2.cell (p := ⟨g, kn, none⟩) hgl).trans hcw)))
       all_goals (go_wp2; go_meet)
       all_goals exact ⟨_, _, rfl, rfl, ⟨HR.out⟩, N2⟩
      case rest =>
       clear N0 e0 e1 e2 e3 e4 HBs
       obtain ⟨nb, t2, rfl, rfl, HT2, HN⟩ := hcut
       rename_i K2 a2
       refine a2 _ _ ?_
       apply wp_seq_k
       intro _ _
       clear K2 a2
       have htl2 : t2.size ≤ 100020100 := by
        have h1 := kindWord_len (kn : Int)
        have h2 := digN_len OKI.2.1
        rw [HT2.out, ByteArray.size_append, S_size, List.length_append, List.length_cons]; omega
       go_cut [3] from 44 to 75 (fun v3 wc => ∃ t3 : ByteArray, v3 = .string t3 ∧ Aside0 (t3 = t2 ++ S (rNodeEnd n)) ∧ NstT w a0_0 (some ad) c0_1 l0_1.length A0_2 c0_2 l0_2.length nb #[.int .i64 (kn : Int), .int .i64 n.f1, .int .i64 n.f2, .int .i64 n.f3, .string n.f4] 40 wc)
       case first =>
        obtain ⟨n0, n1, n2, n3, n4, n5, n6, n7, n8, n9⟩ := five_cells HN.1.out
        have hre : rNodeEnd n = if (kn : Int) = 3 then 32 :: digN n.f2 else if (kn : Int) = 4 then 32 :: n.f4.data.toList else if (kn : Int) = 8 ∨ (kn : Int) = 9 then 32 :: digN n.f3 ++ 32 :: n.f4.data.toList else [] := by unfold rNodeEnd; rw [HKN.out.1]
        have h4l := OKI.2.2.2.2
        by_cases h3 : kn = 3
        ·
         rw [if_pos (by omega)] at hre
         have f3 : ((kn : Int) == 3) = true := by rw [h3]; rfl
         obtain ⟨dg, hdg⟩ : ∃ dg, S (digN n.f2) = dg := ⟨_, rfl⟩
         have hdl : dg.size ≤ 20 := by rw [← hdg, S_size]; exact digN_len OKI.2.2.1
         have HR := Aside0.mk (show t2 ++ ((⟨#[32]⟩ : ByteArray) ++ dg) = t2 ++ S (rNodeEnd n) by rw [hre, ← hdg]; exact congrArg (t2 ++ ·) (S_append [32] _))
         have hD : ∀ W, Calls Tryd.prog 32 #[.int .i64 n.f2] W fun e w' => e = .returned (.string dg) ∧ Below W.heap.size W w' := fun W => by rw [← hdg]; exact tdigits n.f2 OKI.2.2.1 W
         have y1 : (9223372036854775807 < 1 + dg.size) = False := eq_false (by omega)
         have y2 : (9223372036854775807 < t2.size + (1 + dg.size)) = False := eq_false (by omega)
         have HD := Aside0.mk hD
         clear hD hdg hre h3
         go_wp2_with fail
         refine (HD.out _).mono ?_
         rintro e w1 ⟨rfl, hb1⟩
         have N1 := HN.below hb1
         go_wp2
         go_meet
         case rel => exact ⟨_, rfl, ⟨HR.out⟩, N1⟩
        ·
         rw [if_neg (by omega)] at hre
         have f3 : ((kn : Int) == 3) = false := beq_eq_false_iff_ne.mpr (by omega)
         by_cases h4 : kn = 4
         ·
          rw [if_pos (by omega)] at hre
          have f4 : ((kn : Int) == 4) = true := by rw [h4]; rfl
          have HR := Aside0.mk (show t2 ++ ((⟨#[32]⟩ : ByteArray) ++ n.f4) = t2 ++ S (rNodeEnd n) by
           have e := S_of n.f4
           have e1 : rNodeEnd n = [32] ++ n.f4.data.toList := hre
           rw [e1, ← S_append, e]; rfl)
          have y1 : (9223372036854775807 < 1 + n.f4.size) = False := eq_false (by omega)
          have y2 : (9223372036854775807 < t2.size + (1 + n.f4.size)) = False := eq_false (by omega)
          clear hre h3 h4
          go_wp2
          go_meet
          case rel => exact ⟨_, rfl, ⟨HR.out⟩, HN⟩
         ·
          rw [if_neg (by omega)] at hre
          have f4 : ((kn : Int) == 4) = false := beq_eq_false_iff_ne.mpr (by omega)
          by_cases h89 : kn = 8 ∨ kn = 9
          ·
           rw [if_pos (by omega)] at hre
           obtain ⟨dg, hdg⟩ : ∃ dg, S (digN n.f3) = dg := ⟨_, rfl⟩
           have hdl : dg.size ≤ 20 := by rw [← hdg, S_size]; exact digN_len OKI.2.2.2.1
           have HR := Aside0.mk (show t2 ++ ((⟨#[32]⟩ : ByteArray) ++ dg ++ ⟨#[32]⟩ ++ n.f4) = t2 ++ S (rNodeEnd n) by
            have e := S_of n.f4
            have e1 : rNodeEnd n = (([32] ++ digN n.f3) ++ [32]) ++ n.f4.data.toList := by rw [hre]; simp
            rw [e1, ← S_append, ← S_append, ← S_append, e, hdg]; rfl)
           have hD : ∀ W, Calls Tryd.prog 32 #[.int .i64 n.f3] W fun e w' => e = .returned (.string dg) ∧ Below W.heap.size W w' := fun W => by rw [← hdg]; exact tdigits n.f3 OKI.2.2.2.1 W
           have y1 : (9223372036854775807 < 1 + dg.size) = False := eq_false (by omega)
           have y2 : (9223372036854775807 < 1 + dg.size + 1) = False := eq_false (by omega)
           have y3 : (9223372036854775807 < 1 + dg.size + 1 + n.f4.size) = False := eq_false (by omega)
           have y4 : (9223372036854775807 < t2.size + (1 + dg.size + 1 + n.f4.size)) = False := eq_false (by omega)
           have HD := Aside0.mk hD
           have ND := HN.drew
           obtain ⟨d0, d1, d2, d3, d4, d5, d6, d7, d8, d9⟩ := five_cells ND.1.out
           clear hD hdg hre
           by_cases h8 : kn = 8
           ·
            have f8 : ((kn : Int) == 8) = true := by rw [h8]; rfl
            clear h3 h4 h89 h8
            go_upto_region 16 with fail
            go_region_with (go_at_call 32; (with_reducible refine (HD.out (World.drew wc)).mono ?_); rintro e w1 ⟨rfl, hb1⟩; have N1 := ND.below hb1; obtain ⟨x0, x1, x2, x3, x4, x5, x6, x7, x8, x9⟩ := five_cells N1.1.out)
            all_goals (go_wp2; go_meet)
            all_goals exact ⟨_, rfl, ⟨HR.out⟩, N1⟩
           ·
            have f8 : ((kn : Int) == 8) = false := beq_eq_false_iff_ne.mpr (by omega)
            have f9 : ((kn : Int) == 9) = true := by rw [h89.resolve_left h8]; rfl
            clear h3 h4 h89 h8
            go_upto_region 16 with fail
            go_region_with (go_at_call 32; (with_reducible refine (HD.out (World.drew wc)).mono ?_); rintro e w1 ⟨rfl, hb1⟩; have N1 := ND.below hb1; obtain ⟨x0, x1, x2, x3, x4, x5, x6, x7, x8, x9⟩ := five_cells N1.1.out)
            all_goals (go_wp2; go_meet)
            all_goals exact ⟨_, rfl, ⟨HR.out⟩, N1⟩
          ·
           rw [if_neg (by omega)] at hre
           have f8 : ((kn : Int) == 8) = false := beq_eq_false_iff_ne.mpr (by omega)
           have f9 : ((kn : Int) == 9) = false := beq_eq_false_iff_ne.mpr (by omega)
           have HR := Aside0.mk (show t2 = t2 ++ S (rNodeEnd n) by rw [hre]; exact (ByteArray.append_empty (b := t2)).symm)
           clear hre h3 h4 h89
           go_wp2
           go_meet
           case rel => exact ⟨_, rfl, ⟨HR.out⟩, HN⟩
       case rest =>
        clear HN
        obtain ⟨t3, rfl, HT3, HN⟩ := hcut
        rename_i K3 a3
        refine a3 _ _ ?_
        clear K3 a3
        have HI := Aside0.mk (show i < 1000 by have := HC.out.2.1; omega)
        have hle : (rNodeEnd n).length ≤ 20000 := by
         have := rnode_len n OKN.out HKN.out.2
         unfold rNode at this
         simp only [List.length_append, List.length_cons] at this
         omega
        have htl3 : t3.size ≤ 100040100 := by
         rw [HT3.out, ByteArray.size_append, S_size]; omega
        have y1 : (9223372036854775807 < t3.size + 1) = False := eq_false (by omega)
        have HI2 := HI.out
        have HR := Aside0.mk (show t3 ++ (⟨#[10]⟩ : ByteArray) = S (rHead a0_0 ++ (l0_1.take (i + 1)).flatMap rNode) by
         rw [HNN.out, HT3.out, HT2.out, ← HTX.out, ← List.append_assoc, show rNode n = (kindWord (kn : Int) ++ 32 :: digN n.f1) ++ rNodeEnd n ++ [10] from by unfold rNode; rw [HKN.out.1], ← S_append (_ ++ _), ← S_append (_ ++ _) [10], ← S_append (kindWord _ ++ _)]
         rw [← ByteArray.append_assoc, ← ByteArray.append_assoc]; rfl)
        clear hle htl3
        go_wp2
        go_roundg (gk - 1)
        case measure => have := HF.out; omega
        case rel =>
         refine ⟨i + 1, by go_num, by rw [HR.out], ⟨by have := HF.out; omega⟩, ⟨?_⟩, HN.2⟩
         rw [HKT.out, HKI.out, HKN.out.2]; rfl
     ·
      have hall : l0_1.all kindIn = false := by
       rw [← Bool.not_eq_true]
       intro h
       exact hk (List.all_eq_true.mp h n HIN.out)
      have HE := Aside0.mk (show refText a0_0 l0_1 l0_2 = [] by unfold refText; rw [hall]; rfl)
      by_cases h1 : n.f0 < 1
      ·
       have d1 : decide (n.f0 < 1) = true := decide_eq_true h1
       clear h1 hk hall
       go_wp2
       go_ret
       exact ⟨by rw [HE.out]; rfl, HBs.2.out.alloc (Nat.le_of_lt (blk_lt HBs.1.out)) _⟩
      ·
       have d1 : decide (n.f0 < 1) = false := decide_eq_false h1
       have d2 : decide (9 < n.f0) = true := by
        refine decide_eq_true ?_
        refine Classical.byContradiction fun h9 => hk ?_
        unfold kindIn
        rw [decide_eq_true (show 1 ≤ n.f0 by omega), decide_eq_true (show n.f0 ≤ 9 by omega)]; rfl
       clear h1 hk hall
       go_wp2
       go_ret
       exact ⟨by rw [HE.out]; rfl, HBs.2.out.alloc (Nat.le_of_lt (blk_lt HBs.1.out)) _⟩
    ·
     have hlt : decide ((i : Int) < (l0_1.length : Int)) = false := decide_eq_false (by omega)
     have HR := Aside0.mk (show l0_1.take i = l0_1 from List.take_of_length_le (by omega))
     go_wp2
     go_meet
     case rel => exact ⟨by rw [HR.out], ⟨by have := HKI.out; rw [HR.out] at this; exact this⟩, HBs⟩
  case rest =>
   clear HBs
   obtain ⟨rfl, HKA, HBs⟩ := hcut
   rename_i K1 a1
   refine a1 _ _ ?_
   apply wp_seq_k
   intro _ _
   clear K1 a1
   go_cut [3] from 8 to 126 (fun v3 wc => v3 = .string (S (rHead a0_0 ++ l0_1.flatMap rNode ++ l0_2.flatMap rFlow)) ∧ BaseT w a0_0 A0_1 c0_1 l0_1.length A0_2 c0_2 l0_2.length wc)
   case first =>
    go_wp2_with fail
    go_loopg [3, 6] (l0_2.length) (fun kq v3 v6 wr => ∃ i : Nat, v6 = .int .i64 (i : Int) ∧ v3 = .string (S (rHead a0_0 ++ l0_1.flatMap rNode ++ (l0_2.take i).flatMap rFlow)) ∧ Aside0 (kq + i = l0_2.length) ∧ BaseT w a0_0 A0_1 c0_1 l0_1.length A0_2 c0_2 l0_2.length wr)
    case atStart => exact ⟨0, rfl, by rw [List.take_zero]; simp, ⟨rfl⟩, HBs⟩
    case round =>
     obtain ⟨i, rfl, rfl, HF, HBs⟩ := hrel
     obtain ⟨b0, b1, b2⟩ : wr.cell? ⟨w.heap.size, 0, none⟩ = some (.string a0_0) ∧ wr.cell? ⟨w.heap.size, 1, none⟩ = some (.slice A0_1 l0_1.length c0_1) ∧ wr.cell? ⟨w.heap.size, 2, none⟩ = some (.slice A0_2 l0_2.length c0_2) := ⟨blk_cell HBs.1.out 0, blk_cell HBs.1.out 1, blk_cell HBs.1.out 2⟩
     by_cases hi : i < l0_2.length
     ·
      have hlt : decide ((i : Int) < (l0_2.length : Int)) = true := decide_eq_true (by omega)
      obtain ⟨ad, rfl, e0, e1, e2, e3, e4⟩ := at_T42 (Kd.C_below HR2.out HBs.2.out) (i : Int) (by omega) (by omega)
      have hnd : rd_T42 l0_2 (i : Int) = l0_2[i] := by unfold rd_T42; rw [Int.toNat_natCast, List.getD_eq_getElem?_getD, List.getElem?_eq_getElem hi]; rfl
      rw [Int.toNat_natCast, hnd] at e0 e1 e2 e3 e4
      have hin : l0_2[i] ∈ l0_2 := List.getElem_mem hi
      obtain ⟨n, hn⟩ : ∃ n, l0_2[i] = n := ⟨_, rfl⟩
      rw [hn] at e0 e1 e2 e3 e4 hin
      have OKN := Aside0.mk (List.all_eq_true.mp HC.out.2.2.2.2 n hin)
      have LEN := Aside0.mk (rflows_len _ (allp_take okFlow l0_2 i HC.out.2.2.2.2))
      have LEM := Aside0.mk (rnodes_len _ HC.out.2.2.2.1 HKA.out)
      have HNN := Aside0.mk (flat_take rFlow l0_2 i hi)
      rw [hn] at HNN
      have OKI := (okFlow_iff n).mp OKN.out
      clear hn hin hnd
      obtain ⟨tx, htx⟩ : ∃ tx, S (rHead a0_0 ++ l0_1.flatMap rNode ++ (l0_2.take i).flatMap rFlow) = tx := ⟨_, rfl⟩
      have HTX := Aside0.mk htx
      have htl : tx.size ≤ 200000000 := by
       rw [← htx, S_size, List.length_append, List.length_append, rhead_len]
       have h1 := LEN.out
       have h2 := LEM.out
       rw [List.length_take] at h1
       omega
      rw [htx]
      clear htx
      go_upto_region 22 with fail
      have N0 : NstT w a0_0 A0_1 c0_1 l0_1.length (some ad) c0_2 l0_2.length wr.heap.size #[.int .i64 n.f0, .int .i64 n.f1, .int .i64 n.f2, .int .i64 n.f3, .string n.f4] 42 (wr.alloc (.cells #[.int .i64 n.f0, .int .i64 n.f1, .int .i64 n.f2, .int .i64 n.f3, .string n.f4] 42)) := ⟨⟨blk_new wr _⟩, HBs.below ((Below.refl _ _).alloc (Nat.le_refl _) _)⟩
      go_cut [3, 7] from 83 to 125 (fun v3 v7 wc => ∃ (nb : Nat) (t2 : ByteArray), v7 = .pointer (some ⟨nb, 0, none⟩) ∧ v3 = .string t2 ∧ Aside0 (t2 = tx ++ S (wFlow ++ 32 :: digN n.f0 ++ 32 :: digN n.f1)) ∧ NstT w a0_0 A0_1 c0_1 l0_1.length (some ad) c0_2 l0_2.length nb #[.int .i64 n.f0, .int .i64 n.f1, .int .i64 n.f2, .int .i64 n.f3, .string n.f4] 42 wc)
      case first =>
       clear e0 e1 e2 e3 e4
       obtain ⟨da, hda⟩ : ∃ da, S (digN n.f0) = da := ⟨_, rfl⟩
       obtain ⟨db, hdb⟩ : ∃ db, S (digN n.f1) = db := ⟨_, rfl⟩
       have hal : da.size ≤ 20 := by rw [← hda, S_size]; exact digN_len OKI.1
       have hbl : db.size ≤ 20 := by rw [← hdb, S_size]; exact digN_len OKI.2.1
       have hA : ∀ W, Calls Tryd.prog 32 #[.int .i64 n.f0] W fun e w' => e = .returned (.string da) ∧ Below W.heap.size W w' := fun W => by rw [← hda]; exact tdigits n.f0 OKI.1 W
       have hB : ∀ W, Calls Tryd.prog 32 #[.int .i64 n.f1] W fun e w' => e = .returned (.string db) ∧ Below W.heap.size W w' := fun W => by rw [← hdb]; exact tdigits n.f1 OKI.2.1 W
       have HR := Aside0.mk (show tx ++ ((⟨#[102, 108, 111, 119, 32]⟩ : ByteArray) ++ da ++ ⟨#[32]⟩ ++ db) = tx ++ S (wFlow ++ 32 :: digN n.f0 ++ 32 :: digN n.f1) by
        have e1 : wFlow ++ 32 :: digN n.f0 ++ 32 :: digN n.f1 = (([102, 108, 111, 119, 32] ++ digN n.f0) ++ [32]) ++ digN n.f1 := by simp [wFlow]
        rw [e1, ← S_append, ← S_append, ← S_append, hda, hdb]; rfl)
       have HA := Aside0.mk hA
       have HB := Aside0.mk hB
       have y1 : (9223372036854775807 < 5 + da.size) = False := eq_false (by omega)
       have y2 : (9223372036854775807 < 5 + da.size + 1) = False := eq_false (by omega)
       have y3 : (9223372036854775807 < 5 + da.size + 1 + db.size) = False := eq_false (by omega)
       have y4 : (9223372036854775807 < tx.size + (5 + da.size + 1 + db.size)) = False := eq_false (by omega)
       clear hda hdb hA hB
       have ND := N0.drew
       obtain ⟨d0, d1, d2, d3, d4, d5, d6, d7, d8, d9⟩ := five_cells ND.1.out
       go_region_with (go_at_call 32; first
         | ((with_reducible refine (HA.out (World.drew (World.alloc wr (.cells #[.int .i64 n.f0, .int .i64 n.f1, .int .i64 n.f2, .int .i64 n.f3, .string n.f4] 42)))).mono ?_); rintro e w1 ⟨rfl, hb1⟩; have N1 := ND.below hb1; obtain ⟨x0, x1, x2, x3, x4, x5, x6, x7, x8, x9⟩ := five_cells N1.1.out)
         | ((with_reducible refine (HB.out (World.drew (World.alloc wr (.cells #[.int .i64 n.f0, .int .i64 n.f1, .int .i64 n.f2, .int .i64 n.f3, .string n.f4] 42)))).mono ?_); rintro e w1 ⟨rfl, hb1⟩; have N1 := ND.below hb1; obtain ⟨x0, x1, x2, x3, x4, x5, x6, x7, x8, x9⟩ := five_cells N1.1.out)
         | ((with_reducible refine (HA.out w1).mono ?_); rintro e w2 ⟨rfl, hb2⟩; have N2 := N1.below hb2)
         | ((with_reducible refine (HB.out w1).mono ?_); rintro e w2 ⟨rfl, hb2⟩; have N2 := N1.below hb2))
       all_goals (go_wp2; go_meet)
       all_goals exact ⟨_, _, rfl, rfl, ⟨HR.out⟩, N2⟩
      case rest =>
       clear N0 e0 e1 e2 e3 e4 HBs
       obtain ⟨nb, t2, rfl, rfl, HT2, HN⟩ := hcut
       rename_i K2 a2
       refine a2 _ _ ?_
       apply wp_seq_k
       intro _ _
       clear K2 a2
       have htl2 : t2.size ≤ 200000100 := by
        have h1 := digN_len OKI.1
        have h2 := digN_len OKI.2.1
        rw [HT2.out, ByteArray.size_append, S_size]
        simp only [List.length_append, List.length_cons, List.length_nil, wFlow]; omega
       go_cut [3] from 99 to 125 (fun v3 wc => ∃ t3 : ByteArray, v3 = .string t3 ∧ Aside0 (t3 = t2 ++ S (rFlowEnd n)) ∧ NstT w a0_0 A0_1 c0_1 l0_1.length (some ad) c0_2 l0_2.length nb #[.int .i64 n.f0, .int .i64 n.f1, .int .i64 n.f2, .int .i64 n.f3, .string n.f4] 42 wc)
       case first =>
        obtain ⟨n0, n1, n2, n3, n4, n5, n6, n7, n8, n9⟩ := five_cells HN.1.out
        have hre : rFlowEnd n = if n.f2 = 1 then 32 :: wDefault else if n.f2 = 2 then 32 :: wIf ++ 32 :: n.f4.data.toList else if n.f2 = 3 then 32 :: wAgain ++ 32 :: digN n.f3 ++ 32 :: wIf ++ 32 :: n.f4.data.toList else [] := rfl
        have h4l := OKI.2.2.2.2
        by_cases h1 : n.f2 = 1
        ·
         rw [if_pos h1] at hre
         have f1 : (n.f2 == 1) = true := by rw [h1]; rfl
         have HR := Aside0.mk (show t2 ++ (⟨#[32, 100, 101, 102, 97, 117, 108, 116]⟩ : ByteArray) = t2 ++ S (rFlowEnd n) by rw [hre]; rfl)
         have y1 : (9223372036854775807 < t2.size + 8) = False := eq_false (by omega)
         clear hre h1
         go_wp2
         go_meet
         case rel => exact ⟨_, rfl, ⟨HR.out⟩, HN⟩
        ·
         rw [if_neg h1] at hre
         have f1 : (n.f2 == 1) = false := beq_eq_false_iff_ne.mpr h1
         by_cases h2 : n.f2 = 2
         ·
          rw [if_pos h2] at hre
          have f2 : (n.f2 == 2) = true := by rw [h2]; rfl
          have HR := Aside0.mk (show t2 ++ ((⟨#[32, 105, 102, 32]⟩ : ByteArray) ++ n.f4) = t2 ++ S (rFlowEnd n) by
           have e := S_of n.f4
           have e1 : rFlowEnd n = [32, 105, 102, 32] ++ n.f4.data.toList := by rw [hre]; simp [wIf]
           rw [e1, ← S_append, e]; rfl)
          have y1 : (9223372036854775807 < 4 + n.f4.size) = False := eq_false (by omega)
          have y2 : (9223372036854775807 < t2.size + (4 + n.f4.size)) = False := eq_false (by omega)
          clear hre h1 h2
          go_wp2
          go_meet
          case rel => exact ⟨_, rfl, ⟨HR.out⟩, HN⟩
         ·
          rw [if_neg h2] at hre
          have f2 : (n.f2 == 2) = false := beq_eq_false_iff_ne.mpr h2
          by_cases h3 : n.f2 = 3
          ·
           rw [if_pos h3] at hre
           have f3 : (n.f2 == 3) = true := by rw [h3]; rfl
           obtain ⟨dg, hdg⟩ : ∃ dg, S (digN n.f3) = dg := ⟨_, rfl⟩
           have hdl : dg.size ≤ 20 := by rw [← hdg, S_size]; exact digN_len OKI.2.2.2.1
           have HR := Aside0.mk (show t2 ++ ((⟨#[32, 97, 103, 97, 105, 110, 32]⟩ : ByteArray) ++ dg ++ ⟨#[32, 105, 102, 32]⟩ ++ n.f4) = t2 ++ S (rFlowEnd n) by
            have e := S_of n.f4
            have e1 : rFlowEnd n = (([32, 97, 103, 97, 105, 110, 32] ++ digN n.f3) ++ [32, 105, 102, 32]) ++ n.f4.data.toList := by rw [hre]; simp [wIf, wAgain]
            rw [e1, ← S_append, ← S_append, ← S_append, e, hdg]; rfl)
           have hD : ∀ W, Calls Tryd.prog 32 #[.int .i64 n.f3] W fun e w' => e = .returned (.string dg) ∧ Below W.heap.size W w' := fun W => by rw [← hdg]; exact tdigits n.f3 OKI.2.2.2.1 W
           have y1 : (9223372036854775807 < 7 + dg.size) = False := eq_false (by omega)
           have y2 : (9223372036854775807 < 7 + dg.size + 4) = False := eq_false (by omega)
           have y3 : (9223372036854775807 < 7 + dg.size + 4 + n.f4.size) = False := eq_false (by omega)
           have y4 : (9223372036854775807 < t2.size + (7 + dg.size + 4 + n.f4.size)) = False := eq_false (by omega)
           have HD := Aside0.mk hD
           have ND := HN.drew
           obtain ⟨d0, d1, d2, d3, d4, d5, d6, d7, d8, d9⟩ := five_cells ND.1.out
           clear hD hdg hre h1 h2 h3
           go_upto_region 29 with fail
           go_region_with (go_at_call 32; (with_reducible refine (HD.out (World.drew wc)).mono ?_); rintro e w1 ⟨rfl, hb1⟩; have N1 := ND.below hb1; obtain ⟨x0, x1, x2, x3, x4, x5, x6, x7, x8, x9⟩ := five_cells N1.1.out)
           all_goals (go_wp2; go_meet)
           all_goals exact ⟨_, rfl, ⟨HR.out⟩, N1⟩
          ·
           rw [if_neg h3] at hre
           have f3 : (n.f2 == 3) = false := beq_eq_false_iff_ne.mpr h3
           have HR := Aside0.mk (show t2 = t2 ++ S (rFlowEnd n) by rw [hre]; exact (ByteArray.append_empty (b := t2)).symm)
           clear hre h1 h2 h3
           go_wp2
           go_meet
           case rel => exact ⟨_, rfl, ⟨HR.out⟩, HN⟩
       case rest =>
        clear HN
        obtain ⟨t3, rfl, HT3, HN⟩ := hcut
        rename_i K3 a3
        refine a3 _ _ ?_
        clear K3 a3
        have HI := Aside0.mk (show i < 1000 by have := HC.out.2.2.1; omega)
        have hle : (rFlowEnd n).length ≤ 20000 := by
         have := rflow_len n OKN.out
         unfold rFlow at this
         simp only [List.length_append, List.length_cons] at this
         omega
        have htl3 : t3.size ≤ 200040100 := by
         rw [HT3.out, ByteArray.size_append, S_size]; omega
        have y1 : (9223372036854775807 < t3.size + 1) = False := eq_false (by omega)
        have HI2 := HI.out
        have HR := Aside0.mk (show t3 ++ (⟨#[10]⟩ : ByteArray) = S (rHead a0_0 ++ l0_1.flatMap rNode ++ (l0_2.take (i + 1)).flatMap rFlow) by
         rw [HNN.out, HT3.out, HT2.out, ← HTX.out, ← List.append_assoc, show rFlow n = (wFlow ++ 32 :: digN n.f0 ++ 32 :: digN n.f1) ++ rFlowEnd n ++ [10] from rfl, ← S_append (_ ++ _ ++ _), ← S_append (_ ++ _) [10], ← S_append (_ ++ _) (rFlowEnd n)]
         rw [← ByteArray.append_assoc, ← ByteArray.append_assoc]; rfl)
        clear hle htl3
        go_wp2
        go_roundg (gk - 1)
        case measure => have := HF.out; omega
        case rel => exact ⟨i + 1, by go_num, by rw [HR.out], ⟨by have := HF.out; omega⟩, HN.2⟩
     ·
      have hlt : decide ((i : Int) < (l0_2.length : Int)) = false := decide_eq_false (by omega)
      have HR := Aside0.mk (show l0_2.take i = l0_2 from List.take_of_length_le (by omega))
      go_wp2
      go_meet
      case rel => exact ⟨by rw [HR.out], HBs⟩
   case rest =>
    obtain ⟨rfl, HBt⟩ := hcut
    rename_i K1 a1
    refine a1 _ _ ?_
    clear K1 a1
    have HR := Aside0.mk (show refText a0_0 l0_1 l0_2 = rHead a0_0 ++ l0_1.flatMap rNode ++ l0_2.flatMap rFlow by unfold refText; rw [if_pos HKA.out])
    go_wp2
    go_ret
    exact ⟨by rw [HR.out]; simp, HBt.2.out⟩
end Go.Proofs.YtpalncojmknlbaaDoor.Y
