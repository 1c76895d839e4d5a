/- span.Print: its closure's contract, and the walk. -/
import Derived.Test.YtmjabkegnpinoaaDoorSpanNext
import Derived.OneCell
import Derived.Deep.RegionHeld3
import Derived.Outline
import Derived.Lib.Hide
namespace Go.Proofs.YtmjabkegnpinoaaDoor.Span
open Go.RowKit Go.Proofs.YtmjabkegnpinoaaDoorW.PrintWords Go.Proofs.YtmjabkegnpinoaaDoor.Ext Go.Proofs.YtmjabkegnpinoaaDoor.B
set_option linter.unusedVariables false

/-- A block that holds one text. -/
def One (w : World) (B : Nat) (s : ByteArray) : Prop := w.heap[B]? = some (.cells #[.string s] 9 (0, 0))

set_option maxHeartbeats 1000000 in
set_option maxRecDepth 100000 in
theorem put_yes (n : Nat) (hn : 0 < n) (hn2 : n < 18446744073709551616) (u : ByteArray) (w0 w : World) (B : Nat) (out : ByteArray) (hB : w0.heap.size ≤ B) (hb : Below w0.heap.size w0 w) (hT : Tab w) (ho : One w B out) (hu : u.size ≤ 100) (hos : out.size ≤ 100000) :
    Calls Tryd.prog 23 #[.int .u64 n, .string u, .pointer (some ⟨B, 0, none⟩)] w fun e w' => e = .returned (.tuple #[]) ∧ One w' B (out ++ (S (Lib.decDigits n) ++ u)) ∧ Below w0.heap.size w0 w' := by
  have hc : w.cell? ⟨B, 0, none⟩ = some (.string out) := cell_of_one ho
  have hlt := lt_of_block ho
  have hfm : Calls Tryd.prog 22 #[.int .u64 n, .int .i64 10] w.drew fun e w' => e = .returned (.string (S (Lib.decDigits n))) ∧ w'.cell? ⟨B, 0, none⟩ = some (.string out) ∧ w'.frozen? ⟨B, 0, none⟩ = false ∧ Hid (One w' B out ∧ Below w0.heap.size w0 w') := by
    refine (strconv_FormatUint.calls n 10 _ _ (Tab.drew hT) (by unfold strconv_FormatUint.f; rw [if_pos ⟨by omega, by omega, rfl⟩])).mono ?_
    rintro e w1 ⟨rfl, hb1⟩
    have ho1 : One w1 B out := (hb1.block B hlt).trans ho
    exact ⟨by rw [Int.toNat_natCast]; rfl, cell_of_one ho1, free_of_one ho1, Lib.hid ⟨ho1, hb.trans ((⟨hb1.os, hb1.tape, hb1.output, hb1.size, hb1.block⟩ : Below w.heap.size w w1).mono hb.size)⟩⟩
  have hds : (S (Lib.decDigits n)).size ≤ 100 := by
    rw [S_size, Lib.decDigits_length]
    have := Lib.numDigits_eq n hn hn2
    split at this <;> omega
  have hs1 : (S (Lib.decDigits n)).size + u.size ≤ 9223372036854775807 := by omega
  have hs2 : out.size + (S (Lib.decDigits n) ++ u).size ≤ 9223372036854775807 := by rw [ByteArray.size_append]; omega
  have hs3 : out.size + ((S (Lib.decDigits n)).size + u.size) ≤ 9223372036854775807 := by omega
  clear ho hlt hb hT hds hu hos
  go_enter Tryd.func23, Tryd.ntmps23
  go_wp2
  go_region_with (go_at_call 22; refine hfm.mono ?_; rintro e w1 ⟨rfl, hc1, hf1, HO⟩)
  all_goals (go_end0; exact ⟨rfl, one_setCell HO.out.1, HO.out.2.setCell hB _⟩)

theorem put_no (u : ByteArray) (w0 w : World) (B : Nat) (out : ByteArray) (hb : Below w0.heap.size w0 w) (ho : One w B out) :
    Calls Tryd.prog 23 #[.int .u64 0, .string u, .pointer (some ⟨B, 0, none⟩)] w fun e w' => e = .returned (.tuple #[]) ∧ One w' B out ∧ Below w0.heap.size w0 w' := by
  have HO := Lib.hid ho
  clear ho
  go_enter Tryd.func23, Tryd.ntmps23
  go_wp2
  go_end0
  exact ⟨rfl, HO.out, hb⟩

/-- A number and its unit; nothing of 0. -/
def partU (n : Nat) (c : UInt8) : List UInt8 := if n = 0 then [] else Lib.decDigits n ++ [c]
theorem S_append (a b : List UInt8) : S a ++ S b = S (a ++ b) := by
  apply ByteArray.ext
  simp [S]
theorem put_calls (n : Nat) (hn2 : n < 18446744073709551616) (c : UInt8) (w0 w : World) (B : Nat) (o : List UInt8) (hB : w0.heap.size ≤ B) (hb : Below w0.heap.size w0 w) (hT : Tab w0) (ho : One w B (S o)) (hos : o.length ≤ 100000) :
    Calls Tryd.prog 23 #[.int .u64 n, .string ⟨#[c]⟩, .pointer (some ⟨B, 0, none⟩)] w fun e w' => e = .returned (.tuple #[]) ∧ One w' B (S (o ++ partU n c)) ∧ Below w0.heap.size w0 w' := by
  by_cases h : n = 0
  · subst h
    have e : o ++ partU 0 c = o := by unfold partU; rw [if_pos rfl, List.append_nil]
    rw [e]
    exact put_no _ w0 w B _ hb ho
  · have e : S o ++ (S (Lib.decDigits n) ++ ⟨#[c]⟩) = S (o ++ partU n c) := by
      unfold partU; rw [if_neg h]
      show S o ++ (S (Lib.decDigits n) ++ S [c]) = _
      rw [S_append, S_append]
    have := put_yes n (by omega) hn2 ⟨#[c]⟩ w0 w B (S o) hB hb (hT.below hb) ho (by show 1 ≤ 100; omega) (by rw [S_size]; exact hos)
    rw [e] at this
    exact this
theorem partU_len (n : Nat) (hn2 : n < 18446744073709551616) (c : UInt8) : (partU n c).length ≤ 100 := by
  unfold partU
  split
  · simp
  · rw [List.length_append, Lib.decDigits_length]
    have := Lib.numDigits_eq n (by omega) hn2
    simp only [List.length_cons, List.length_nil]
    split at this <;> omega

/-- A duration's text. -/
def printL (x : Nat) : List UInt8 :=
  if 1125899906842624 < x then []
  else if x = 0 then [80, 84, 48, 83]
  else if x % 604800 = 0 then [80] ++ Lib.decDigits (x / 604800) ++ [87]
  else [80] ++ partU (x / 86400) 68 ++ (if x % 86400 = 0 then [] else [84]) ++ partU (x % 86400 / 3600) 72 ++ partU (x % 3600 / 60) 77 ++ partU (x % 60) 83

theorem dv (x k : Nat) : ((x / k : Nat) : Int) = (x : Int) / (k : Int) := Int.natCast_ediv x k
theorem md (x k : Nat) : ((x % k : Nat) : Int) = (x : Int) % (k : Int) := Int.natCast_emod x k
theorem one_alloc (w : World) (s : ByteArray) : One (w.alloc (.cells #[.string s] 9)) w.heap.size s := by
  show (w.heap.push _)[w.heap.size]? = _
  exact Array.getElem?_push_size
theorem one_set {w : World} {B : Nat} {s : List UInt8} (h : One w B (S s)) (c : UInt8) : One (w.setCell ⟨B, 0, none⟩ (.string (S s ++ ⟨#[c]⟩))) B (S (s ++ [c])) := by
  rw [← S_append]; exact one_setCell h
theorem put_next {x : Int} {n : Nat} (hx : (n : Int) = x) (hn2 : n < 18446744073709551616) (c : UInt8) {w0 w : World} {o : List UInt8} (hb : Below w0.heap.size w0 w) (hT : Tab w0) (ho : One w w0.heap.size (S o)) {m : Nat} (hm : m + 100 ≤ 100000) (hos : o.length ≤ m) {o' : List UInt8} (he : Hid (o ++ partU n c = o')) :
    Calls Tryd.prog 23 #[.int .u64 x, .string ⟨#[c]⟩, .pointer (some ⟨w0.heap.size, 0, none⟩)] w fun e w' => e = .returned (.tuple #[]) ∧
      w'.cell? ⟨w0.heap.size, 0, none⟩ = some (.string (S o')) ∧ w'.frozen? ⟨w0.heap.size, 0, none⟩ = false ∧ Hid (One w' w0.heap.size (S o') ∧ Below w0.heap.size w0 w' ∧ o'.length ≤ m + 100) := by
  subst hx
  obtain rfl := he.out
  refine (put_calls n hn2 c w0 w _ o (Nat.le_refl _) hb hT ho (by omega)).mono ?_
  rintro e w' ⟨rfl, ho', hb'⟩
  have := partU_len n hn2 c
  exact ⟨rfl, cell_of_one ho', free_of_one ho', Lib.hid ⟨ho', hb', by rw [List.length_append]; omega⟩⟩

set_option maxHeartbeats 1000000 in
set_option maxRecDepth 100000 in
theorem print_time (x : Nat) (h1 : x ≤ 1125899906842624) (h2 : 0 < x) (h3 : 0 < x % 604800) (h4 : 0 < x % 86400) (w : World) (hT : Tab w) :
    Calls Tryd.prog 12 #[.int .u64 x] w fun e w' => e = .returned (.tuple #[.string (S (printL x)), .bool true]) ∧ Below w.heap.size w w' := by
  have hmf : ∀ (fn : Fn) (first cap : Array Value) (w : World), (Instr.makeFunc fn first cap).run Tryd.prog w = .ok (.func fn first cap) w := fun _ _ _ _ => rfl
  have hP : printL x = [80] ++ partU (x / 86400) 68 ++ [84] ++ partU (x % 86400 / 3600) 72 ++ partU (x % 3600 / 60) 77 ++ partU (x % 60) 83 := by
    unfold printL; rw [if_neg (by omega), if_neg (by omega), if_neg (by omega), if_neg (by omega)]
  obtain ⟨o1, g1⟩ : ∃ o, [80] ++ partU (x / 86400) 68 = o := ⟨_, rfl⟩
  obtain ⟨o2, g2⟩ : ∃ o, (o1 ++ [84]) ++ partU (x % 86400 / 3600) 72 = o := ⟨_, rfl⟩
  obtain ⟨o3, g3⟩ : ∃ o, o2 ++ partU (x % 3600 / 60) 77 = o := ⟨_, rfl⟩
  obtain ⟨o4, g4⟩ : ∃ o, o3 ++ partU (x % 60) 83 = o := ⟨_, rfl⟩
  have hP4 : printL x = o4 := by rw [hP, ← g4, ← g3, ← g2, ← g1]
  have G1 := Lib.hid g1
  have G2 := Lib.hid g2
  have G3 := Lib.hid g3
  have G4 := Lib.hid g4
  have e1 := Lib.hid (dv x 86400)
  have e2 := Lib.hid ((dv (x % 86400) 3600).trans (congrArg (· / ((3600 : Nat) : Int)) (md x 86400)))
  have e3 := Lib.hid ((dv (x % 3600) 60).trans (congrArg (· / ((60 : Nat) : Int)) (md x 3600)))
  have e4 := Lib.hid (md x 60)
  have HP := Lib.hid hP4
  have d3 : ((x : Int) % 604800 == 0) = false := by rw [beq_eq_false_iff_ne]; omega
  have d4 : decide (0 < (x : Int) % 86400) = true := decide_eq_true (by omega)
  have q1 : x / 86400 < 18446744073709551616 := by omega
  have q2 : x % 86400 / 3600 < 18446744073709551616 := by omega
  have q3 : x % 3600 / 60 < 18446744073709551616 := by omega
  have q4 : x % 60 < 18446744073709551616 := by omega
  have Q := Lib.hid (And.intro q1 (And.intro q2 (And.intro q3 q4)))
  clear hP hP4 q1 q2 q3 q4 h4 h3 g1 g2 g3 g4
  go_enter Tryd.func12, Tryd.ntmps12
  go_wp2_with fail
  refine (put_next e1.out Q.out.1 68 ((Below.refl _ _).alloc (Nat.le_refl _) _) hT (one_alloc w (S [80])) (m := 1) (by omega) (by simp) G1).mono ?_
  rintro e w1 ⟨rfl, hc1, hf1, H1⟩
  have hz : (S o1).size + 1 ≤ 9223372036854775807 := by rw [S_size]; have := H1.out.2.2; omega
  go_wp2_with fail
  refine (put_next e2.out Q.out.2.1 72 (H1.out.2.1.setCell (Nat.le_refl _) _) hT (one_set H1.out.1 84) (m := 102) (by omega) (by rw [List.length_append]; have := H1.out.2.2; simp at this ⊢; omega) G2).mono ?_
  rintro e w2 ⟨rfl, hc2, hf2, H2⟩
  clear hc1 hf1
  go_wp2_with fail
  refine (put_next e3.out Q.out.2.2.1 77 H2.out.2.1 hT H2.out.1 (m := 202) (by omega) H2.out.2.2 G3).mono ?_
  rintro e w3 ⟨rfl, hc3, hf3, H3⟩
  clear hc2 hf2
  go_wp2_with fail
  refine (put_next e4.out Q.out.2.2.2 83 H3.out.2.1 hT H3.out.1 (m := 302) (by omega) H3.out.2.2 G4).mono ?_
  rintro e w4 ⟨rfl, hc4, hf4, H4⟩
  clear hc3 hf3
  go_wp2_with fail
  go_ret2
  exact ⟨by rw [HP.out]; rfl, H4.out.2.1⟩

set_option maxHeartbeats 1000000 in
set_option maxRecDepth 100000 in
theorem print_date (x : Nat) (h1 : x ≤ 1125899906842624) (h2 : 0 < x) (h3 : 0 < x % 604800) (h4 : x % 86400 = 0) (w : World) (hT : Tab w) :
    Calls Tryd.prog 12 #[.int .u64 x] w fun e w' => e = .returned (.tuple #[.string (S (printL x)), .bool true]) ∧ Below w.heap.size w w' := by
  have hmf : ∀ (fn : Fn) (first cap : Array Value) (w : World), (Instr.makeFunc fn first cap).run Tryd.prog w = .ok (.func fn first cap) w := fun _ _ _ _ => rfl
  have hP : printL x = [80] ++ partU (x / 86400) 68 ++ [] ++ partU (x % 86400 / 3600) 72 ++ partU (x % 3600 / 60) 77 ++ partU (x % 60) 83 := by
    unfold printL; rw [if_neg (by omega), if_neg (by omega), if_neg (by omega), if_pos h4]
  obtain ⟨o1, g1⟩ : ∃ o, [80] ++ partU (x / 86400) 68 = o := ⟨_, rfl⟩
  obtain ⟨o2, g2⟩ : ∃ o, o1 ++ partU (x % 86400 / 3600) 72 = o := ⟨_, rfl⟩
  obtain ⟨o3, g3⟩ : ∃ o, o2 ++ partU (x % 3600 / 60) 77 = o := ⟨_, rfl⟩
  obtain ⟨o4, g4⟩ : ∃ o, o3 ++ partU (x % 60) 83 = o := ⟨_, rfl⟩
  have hP4 : printL x = o4 := by rw [hP, ← g4, ← g3, ← g2, ← g1]; simp only [List.append_nil]
  have G1 := Lib.hid g1
  have G2 := Lib.hid g2
  have G3 := Lib.hid g3
  have G4 := Lib.hid g4
  have e1 := Lib.hid (dv x 86400)
  have e2 := Lib.hid ((dv (x % 86400) 3600).trans (congrArg (· / ((3600 : Nat) : Int)) (md x 86400)))
  have e3 := Lib.hid ((dv (x % 3600) 60).trans (congrArg (· / ((60 : Nat) : Int)) (md x 3600)))
  have e4 := Lib.hid (md x 60)
  have HP := Lib.hid hP4
  have d3 : ((x : Int) % 604800 == 0) = false := by rw [beq_eq_false_iff_ne]; omega
  have d4 : decide (0 < (x : Int) % 86400) = false := decide_eq_false (by omega)
  have q1 : x / 86400 < 18446744073709551616 := by omega
  have q2 : x % 86400 / 3600 < 18446744073709551616 := by omega
  have q3 : x % 3600 / 60 < 18446744073709551616 := by omega
  have q4 : x % 60 < 18446744073709551616 := by omega
  have Q := Lib.hid (And.intro q1 (And.intro q2 (And.intro q3 q4)))
  clear hP hP4 q1 q2 q3 q4 h4 h3 g1 g2 g3 g4
  go_enter Tryd.func12, Tryd.ntmps12
  go_wp2_with fail
  refine (put_next e1.out Q.out.1 68 ((Below.refl _ _).alloc (Nat.le_refl _) _) hT (one_alloc w (S [80])) (m := 1) (by omega) (by simp) G1).mono ?_
  rintro e w1 ⟨rfl, hc1, hf1, H1⟩
  go_wp2_with fail
  refine (put_next e2.out Q.out.2.1 72 H1.out.2.1 hT H1.out.1 (m := 101) (by omega) H1.out.2.2 G2).mono ?_
  rintro e w2 ⟨rfl, hc2, hf2, H2⟩
  clear hc1 hf1
  go_wp2_with fail
  refine (put_next e3.out Q.out.2.2.1 77 H2.out.2.1 hT H2.out.1 (m := 201) (by omega) H2.out.2.2 G3).mono ?_
  rintro e w3 ⟨rfl, hc3, hf3, H3⟩
  clear hc2 hf2
  go_wp2_with fail
  refine (put_next e4.out Q.out.2.2.2 83 H3.out.2.1 hT H3.out.1 (m := 301) (by omega) H3.out.2.2 G4).mono ?_
  rintro e w4 ⟨rfl, hc4, hf4, H4⟩
  clear hc3 hf3
  go_wp2_with fail
  go_ret2
  exact ⟨by rw [HP.out]; rfl, H4.out.2.1⟩

set_option maxHeartbeats 1000000 in
theorem print_week (x : Nat) (h1 : x ≤ 1125899906842624) (h2 : 0 < x) (h3 : x % 604800 = 0) (w : World) (hT : Tab w) :
    Calls Tryd.prog 12 #[.int .u64 x] w fun e w' => e = .returned (.tuple #[.string (S (printL x)), .bool true]) ∧ Below w.heap.size w w' := by
  have hP : printL x = [80] ++ Lib.decDigits (x / 604800) ++ [87] := by
    unfold printL; rw [if_neg (by omega), if_neg (by omega), if_pos h3]
  obtain ⟨o1, g1⟩ : ∃ o, Lib.decDigits (x / 604800) = o := ⟨_, rfl⟩
  have hx : x / 604800 ≠ 0 := by omega
  have hl : o1.length ≤ 100 := by
    rw [← g1, Lib.decDigits_length]
    have := Lib.numDigits_eq (x / 604800) (by omega) (by omega)
    split at this <;> omega
  have hP4 : printL x = [80] ++ o1 ++ [87] := by rw [hP, ← g1]
  have HP := Lib.hid hP4
  have d3 : ((x : Int) % 604800 == 0) = true := by rw [beq_iff_eq]; omega
  have hfm : ∀ W, Tab W → Calls Tryd.prog 22 #[.int .u64 ((x : Int) / 604800), .int .i64 10] W fun e w' => e = .returned (.string (S o1)) ∧ Below W.heap.size W w' := fun W hW =>
    strconv_FormatUint.calls _ 10 _ W hW (by unfold strconv_FormatUint.f; rw [if_pos ⟨by omega, by omega, rfl⟩]; have e : ((x : Int) / 604800).toNat = x / 604800 := by omega
                                             rw [e, g1]; rfl)
  have hz1 : 1 + (S o1).size ≤ 9223372036854775807 := by rw [S_size]; omega
  have hz2 : 1 + (S o1).size + 1 ≤ 9223372036854775807 := by rw [S_size]; omega
  have hz3 : (⟨#[80]⟩ ++ S o1 : ByteArray).size + 1 ≤ 9223372036854775807 := by rw [ByteArray.size_append]; exact hz2
  clear hP hP4 g1 hx h3 hl
  go_enter Tryd.func12, Tryd.ntmps12
  go_wp2_with (go_at_call 22; refine (hfm _ hT).mono ?_; rintro e w' ⟨rfl, hb⟩)
  go_ret2
  exact ⟨by rw [HP.out, ← S_append, ← S_append]; rfl, hb⟩
theorem print_zero (w : World) :
    Calls Tryd.prog 12 #[.int .u64 0] w fun e w' => e = .returned (.tuple #[.string (S (printL 0)), .bool true]) ∧ Below w.heap.size w w' := by
  go_enter Tryd.func12, Tryd.ntmps12
  go_wp2_with fail
  go_ret2
  exact ⟨rfl, Below.refl _ _⟩
theorem print_over (x : Nat) (h1 : 1125899906842624 < x) (w : World) :
    Calls Tryd.prog 12 #[.int .u64 x] w fun e w' => e = .returned (.tuple #[.string (S []), .bool false]) ∧ Below w.heap.size w w' := by
  go_enter Tryd.func12, Tryd.ntmps12
  go_wp2_with fail
  go_ret2
  exact ⟨rfl, Below.refl _ _⟩
/-- span.Print, whatever the number. -/
theorem print_calls (x : Nat) (w : World) (hT : Tab w) :
    Calls Tryd.prog 12 #[.int .u64 x] w fun e w' => e = .returned (.tuple #[.string (S (printL x)), .bool (decide (x ≤ 1125899906842624))]) ∧ Below w.heap.size w w' := by
  by_cases h1 : x ≤ 1125899906842624
  · rw [decide_eq_true h1]
    by_cases h2 : x = 0
    · subst h2; exact print_zero w
    · by_cases h3 : x % 604800 = 0
      · exact print_week x h1 (by omega) h3 w hT
      · by_cases h4 : x % 86400 = 0
        · exact print_date x h1 (by omega) (by omega) h4 w hT
        · exact print_time x h1 (by omega) (by omega) (by omega) w hT
  · rw [decide_eq_false h1]
    have e : printL x = [] := by unfold printL; rw [if_pos (by omega)]
    rw [e]
    exact print_over x (by omega) w
end Go.Proofs.YtmjabkegnpinoaaDoor.Span
