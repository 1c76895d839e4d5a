/- What Go functions compute, as plain Lean functions, and that the machine comes to just that: written by wip/tools/printx.py (my run of the printer, with contracts of mine beside it). -/
import Derived.Test.YtpalncojmknlbaaDoorOn
import Derived.Test.YtpalncojmknlbaaDoorDefNode
import Derived.Test.YtpalncojmknlbaaDoorDefWrite
import Derived.Test.YtpalncojmknlbaaDoorAx2
import Derived.Test.YtpalncojmknlbaaDoorYx0
namespace Go.Proofs.YtpalncojmknlbaaDoor.Y
open Go.Proofs.YtpalncojmknlbaaDoor.Ext Go.Proofs.YtpalncojmknlbaaDoor.A Go.RowKit Go.Proofs.YtpalncojmknlbaaDoorW.PrintWords Go.Proofs.YtpalncojmknlbaaDoorW.PrintLast Go.Proofs.YtpalncojmknlbaaDoorW.PrintMore
attribute [local go_sem] max2_int min2_int max_two min_two max_three min_three max_four min_four   -- for this text's walks alone
set_option linter.unusedVariables false
set_option linter.unusedSimpArgs false

/-! ### remontoirref16_Number: function 61 -/
mutual
def remontoirref16_Number.j0 : Nat → ByteArray → Int → Bool → Option (Int × Bool)
 | 0, _, _, _ => none
 | k + 1, x0, x1, x24 => if x24 = true then (some (0, false)) else (remontoirref16_Number.l0 k x0 x1 0 0)
def remontoirref16_Number.l0 : Nat → ByteArray → Int → Int → Int → Option (Int × Bool)
 | 0, _, _, _, _ => none
 | k + 1, x0, x1, x5, x6 => if x6 < (x0.size : Int) then (if 0 ≤ x6 then (if (bt x0 x6) < 48 then (some (0, false)) else (if (bt x0 x6) > 57 then (some (0, false)) else (remontoirref16_Number.l0 k x0 x1 (wrap64 ((wrap64 (10 * x5)) + (((bt x0 x6) - 48) % 256))) (wrap64 (x6 + 1))))) else (none)) else (if x5 > x1 then (some (0, false)) else (some (x5, true)))
end
def remontoirref16_Number.f (k : Nat) (a0 : ByteArray) (a1 : Int) : Option (Int × Bool) := if (a0.size : Int) < 1 then (remontoirref16_Number.j0 k a0 a1 true) else (if (a0.size : Int) > 9 then (remontoirref16_Number.j0 k a0 a1 true) else (if (a0.size : Int) > 1 then (if 0 < (a0.size : Int) then (remontoirref16_Number.j0 k a0 a1 ((bt a0 0) == 48)) else (none)) else (remontoirref16_Number.j0 k a0 a1 false)))
set_option maxHeartbeats 8000000 in
set_option maxRecDepth 100000 in
theorem remontoirref16_Number.calls (k : Nat) (a0 : ByteArray) (a1 : Int) (r1 : Int) (r2 : Bool) (w : World) (h : remontoirref16_Number.f k a0 a1 = some (r1, r2)) :
  Calls Tryd.prog 61 #[.string a0, .int .i64 a1] w fun e w' => e = .returned (.agg #[.int .i64 r1, .bool r2]) ∧ Below w.heap.size w w' := by
 have hu101 := Tryd.underlying101
 have HB := mk0 (Below.refl w.heap.size w)
 have H : (if (a0.size : Int) < 1 then (remontoirref16_Number.j0 k a0 a1 true) else (if (a0.size : Int) > 9 then (remontoirref16_Number.j0 k a0 a1 true) else (if (a0.size : Int) > 1 then (if 0 < (a0.size : Int) then (remontoirref16_Number.j0 k a0 a1 ((bt a0 0) == 48)) else (none)) else (remontoirref16_Number.j0 k a0 a1 false)))) = some (r1, r2) := h
 clear h
 have HC3 := mk0 H
 clear H
 go_enter Tryd.func61, Tryd.ntmps61
 go_upto_region 1 with (first | ((with_reducible refine gate_dst (N := 4) rfl ?_); (try (refine gate_guard (by rfl) ?_; dsimp only)); refine box_event ?hg (N := 4) ?hd (cs := #[.int .i64 0, .bool false]) (t := 101) ?hr ?_; (case hd => rfl); (case hg => rfl); (case hr => first | (go_simp; done) | (go_simp; rfl)); intro gb233 hg w4 hbox hb; have n0_ := mk0 (bst HB.out hb); have n1_ := mk0 (hbox); have n2_ := mk0 (gle hg HB.out); have n3_ := mk0 (gle hg HB.out); clear HB; have HB := n0_; have BK233 := n1_; have GW233 := n2_; have GE233 := n3_; clear n0_ n1_ n2_ n3_; clear hb hbox hg))
 (try simp only [Act.put, List.setIfInBounds_toArray, List.set_cons_zero, List.set_cons_succ])
 go_cut [24] (fun v24 wc => ∃ (kq : Nat) (x24_2 : Bool), v24 = .bool x24_2 ∧ Aside0 (remontoirref16_Number.j0 kq a0 a1 x24_2 = some (r1, r2)) ∧ Aside0 (kq ≤ k) ∧ Aside0 (wc.heap[gb233]? = some (.cells #[.int .i64 0, .bool false] 101 (0, 0))) ∧ Aside0 (Below w.heap.size w wc))
 case first =>
  have H := HC3.out
  clear HC3
  by_cases c5 : (a0.size : Int) < 1
  ·
   rw [if_pos c5] at H
   have c5b0 : decide ((a0.size : Int) < 1) = true := decide_eq_true c5
   have c5b1 : decide (a0.size < 1) = true := decide_eq_true (by omega)
   clear c5
   (first | rw [c5b0] | (simp only [i64_w, i32_w]; rw [c5b0]) | skip)
   have H' := mk0 H
   clear H
   go_wp2
   go_meet
   case rel => exact ⟨_, (true), (by first | rfl | (simp; done) | (simp [*]; done)), H', ⟨by first | omega | exact Nat.le_refl _⟩, ⟨by exact obk BK233.out⟩, ⟨by exact bok HB.out⟩⟩
  ·
   rw [if_neg c5] at H
   have c5b0 : decide ((a0.size : Int) < 1) = false := decide_eq_false c5
   have c5b1 : decide (a0.size < 1) = false := decide_eq_false (by omega)
   clear c5
   (first | rw [c5b0] | (simp only [i64_w, i32_w]; rw [c5b0]) | skip)
   by_cases c6 : (a0.size : Int) > 9
   ·
    rw [if_pos c6] at H
    have c6b0 : decide (9 < (a0.size : Int)) = true := decide_eq_true c6
    have c6b1 : decide (9 < a0.size) = true := decide_eq_true (by omega)
    clear c6
    have H' := mk0 H
    clear H
    go_wp2
    go_meet
    case rel => exact ⟨_, (true), (by first | rfl | (simp; done) | (simp [*]; done)), H', ⟨by first | omega | exact Nat.le_refl _⟩, ⟨by exact obk BK233.out⟩, ⟨by exact bok HB.out⟩⟩
   ·
    rw [if_neg c6] at H
    have c6b0 : decide (9 < (a0.size : Int)) = false := decide_eq_false c6
    have c6b1 : decide (9 < a0.size) = false := decide_eq_false (by omega)
    clear c6
    by_cases c7 : (a0.size : Int) > 1
    ·
     rw [if_pos c7] at H
     have c7b0 : decide (1 < (a0.size : Int)) = true := decide_eq_true c7
     have c7b1 : decide (1 < a0.size) = true := decide_eq_true (by omega)
     clear c7
     by_cases c8 : 0 < (a0.size : Int)
     ·
      rw [if_pos c8] at H
      have c8b0 : decide (0 < (a0.size : Int)) = true := decide_eq_true c8
      have c8b1 : decide (0 < a0.size) = true := decide_eq_true (by omega)
      clear c8
      have H' := mk0 H
      clear H
      have p9 : 0 ≤ (0 : Int) := (by omega)
      have q9 : 0 < a0.size := (by have : (0 : Int) < (a0.size : Int) := of_decide_eq_true (by assumption); omega)
      have hx9 : ∀ h : 0 < a0.size, ((a0[0]'h).toNat : Int) = bt a0 0 := bt_at a0 0
      clear p9
      have qi9 : (0 < (a0.size : Int)) = True := eq_true (of_decide_eq_true (by assumption))
      replace q9 := eq_true q9
      go_wp2
      go_meet
      case rel => exact ⟨_, (((bt a0 0) == 48)), (by first | rfl | (simp; done) | (simp [*]; done)), H', ⟨by first | omega | exact Nat.le_refl _⟩, ⟨by exact obk BK233.out⟩, ⟨by exact bok HB.out⟩⟩
     ·
      rw [if_neg c8] at H
      exact absurd H (by simp)
    ·
     rw [if_neg c7] at H
     have c7b0 : decide (1 < (a0.size : Int)) = false := decide_eq_false c7
     have c7b1 : decide (1 < a0.size) = false := decide_eq_false (by omega)
     clear c7
     have H' := mk0 H
     clear H
     go_wp2
     go_meet
     case rel => exact ⟨_, (false), (by first | rfl | (simp; done) | (simp [*]; done)), H', ⟨by first | omega | exact Nat.le_refl _⟩, ⟨by exact obk BK233.out⟩, ⟨by exact bok HB.out⟩⟩
 case rest =>
  clear HC3
  try clear p2
  try clear c5
  try clear c5b0
  try clear c5b1
  try clear c6
  try clear c6b0
  try clear c6b1
  try clear c7
  try clear c7b0
  try clear c7b1
  try clear c8
  try clear c8b0
  try clear c8b1
  try clear p9
  try clear q9
  try clear hx9
  try clear qi9
  try clear p9
  try clear q9
  obtain ⟨kq, x24_2, rfl, HA, HJ2, BK233, HB⟩ := hcut
  cases kq with
  | zero => exact absurd HA.out (by simp [remontoirref16_Number.j0])
  | succ kj2 =>
   have H := HA.out
   clear HA
   simp only [remontoirref16_Number.j0] at H
   by_cases c10 : x24_2 = true
   ·
    subst c10
    have H1 : (some (0, false)) = some (r1, r2) := by rw [if_pos rfl] at H; exact H
    clear H
    have H := H1
    clear H1
    simp only [Option.some.injEq, Prod.mk.injEq] at H
    obtain ⟨rfl, rfl⟩ := H
    obtain ⟨hcz11_0, hcz11_1, hfz11_0, hfz11_1⟩ := blk2 BK233.out
    go_wp2
    refine bodyPost_ret (results_cell_row rfl _ _ gb233 101 #[.int .i64 0, .bool false] (0, 0) _ rfl (by exact obk (blk_put (obk (blk_put (obk BK233.out) 0 _ rfl)) 1 _ rfl)) Tryd.underlying101 rfl (by kernel_rfl)) rfl ?_
    exact ⟨by first | rfl | (simp [*, errW_none, errW_some] <;> rfl), by exact bok HB.out⟩
   ·
    replace c10 := Bool.eq_false_iff.mpr c10
    subst c10
    have H1 : (remontoirref16_Number.l0 kj2 a0 a1 0 0) = some (r1, r2) := by rw [if_neg (show ¬ (false = true) by decide)] at H; exact H
    clear H
    have H := H1
    clear H1
    have H' := mk0 H
    clear H
    go_wp2
    go_loopg [5, 6] kj2 (fun kq v5 v6 w' => ∃ (x5_2 : Int) (x6_2 : Int) (x234000_2 : Int) (x234001_2 : Bool), v5 = .int .i64 x5_2 ∧ v6 = .int .i64 x6_2 ∧ Aside0 (remontoirref16_Number.l0 kq a0 a1 x5_2 x6_2 = some (r1, r2)) ∧ Aside0 (kq ≤ kj2) ∧ Aside0 (w'.heap[gb233]? = some (.cells #[.int .i64 x234000_2, .bool x234001_2] 101 (0, 0))) ∧ Aside0 (Below w.heap.size w w'))
    case atStart => exact ⟨(0), (0), (0), (false), (by first | rfl | (simp; done) | (simp [*]; done)), (by first | rfl | (simp; done) | (simp [*]; done)), H', ⟨Nat.le_refl _⟩, ⟨by exact obk BK233.out⟩, ⟨by exact bok HB.out⟩⟩
    case round =>
     clear H'
     try clear c1
     try clear p2
     try clear c5
     try clear c5b0
     try clear c5b1
     try clear c6
     try clear c6b0
     try clear c6b1
     try clear c7
     try clear c7b0
     try clear c7b1
     try clear c8
     try clear c8b0
     try clear c8b1
     try clear p9
     try clear q9
     try clear hx9
     try clear qi9
     try clear c10
     try clear p2
     try clear p9
     try clear q9
     obtain ⟨x5_2, x6_2, x234000_2, x234001_2, rfl, rfl, HA, HK2, BK233, HB⟩ := hrel
     cases gk with
     | zero => exact absurd HA.out (by simp [remontoirref16_Number.l0])
     | succ k2 =>
      have H := HA.out
      clear HA
      simp only [remontoirref16_Number.l0] at H
      by_cases c12 : x6_2 < (a0.size : Int)
      ·
       rw [if_pos c12] at H
       have c12b0 : decide (x6_2 < (a0.size : Int)) = true := decide_eq_true c12
       clear c12
       by_cases c13 : 0 ≤ x6_2
       ·
        rw [if_pos c13] at H
        have c13b0 : decide (0 ≤ x6_2) = true := decide_eq_true c13
        clear c13
        by_cases c15 : (bt a0 x6_2) < 48
        ·
         rw [if_pos c15] at H
         have c15b0 : decide ((bt a0 x6_2) < 48) = true := decide_eq_true c15
         clear c15
         simp only [Option.some.injEq, Prod.mk.injEq] at H
         obtain ⟨rfl, rfl⟩ := H
         have p14 : 0 ≤ (x6_2 : Int) := of_decide_eq_true (by assumption)
         have q14 : x6_2 < (a0.size : Int) := of_decide_eq_true (by assumption)
         have hx14 := bt_at a0 x6_2
         replace p14 := eq_true p14
         replace q14 := eq_true q14
         obtain ⟨hcz16_0, hcz16_1, hfz16_0, hfz16_1⟩ := blk2 BK233.out
         go_wp2
         refine bodyPost_ret (results_cell_row rfl _ _ gb233 101 #[.int .i64 0, .bool false] (0, 0) _ rfl (by exact obk (blk_put (obk (blk_put (obk BK233.out) 0 _ rfl)) 1 _ rfl)) Tryd.underlying101 rfl (by kernel_rfl)) rfl ?_
         exact ⟨by first | rfl | (simp [*, errW_none, errW_some] <;> rfl), by exact bok HB.out⟩
        ·
         rw [if_neg c15] at H
         have c15b0 : decide ((bt a0 x6_2) < 48) = false := decide_eq_false c15
         clear c15
         by_cases c18 : (bt a0 x6_2) > 57
         ·
          rw [if_pos c18] at H
          have c18b0 : decide (57 < (bt a0 x6_2)) = true := decide_eq_true c18
          clear c18
          simp only [Option.some.injEq, Prod.mk.injEq] at H
          obtain ⟨rfl, rfl⟩ := H
          have p14 : 0 ≤ (x6_2 : Int) := of_decide_eq_true (by assumption)
          have q14 : x6_2 < (a0.size : Int) := of_decide_eq_true (by assumption)
          have hx14 := bt_at a0 x6_2
          replace p14 := eq_true p14
          replace q14 := eq_true q14
          have p17 : 0 ≤ (x6_2 : Int) := of_decide_eq_true (by assumption)
          have q17 : x6_2 < (a0.size : Int) := of_decide_eq_true (by assumption)
          have hx17 := bt_at a0 x6_2
          replace p17 := eq_true p17
          replace q17 := eq_true q17
          obtain ⟨hcz19_0, hcz19_1, hfz19_0, hfz19_1⟩ := blk2 BK233.out
          go_wp2
          refine bodyPost_ret (results_cell_row rfl _ _ gb233 101 #[.int .i64 0, .bool false] (0, 0) _ rfl (by exact obk (blk_put (obk (blk_put (obk BK233.out) 0 _ rfl)) 1 _ rfl)) Tryd.underlying101 rfl (by kernel_rfl)) rfl ?_
          exact ⟨by first | rfl | (simp [*, errW_none, errW_some] <;> rfl), by exact bok HB.out⟩
         ·
          rw [if_neg c18] at H
          have c18b0 : decide (57 < (bt a0 x6_2)) = false := decide_eq_false c18
          clear c18
          have H' := mk0 H
          clear H
          have p14 : 0 ≤ (x6_2 : Int) := of_decide_eq_true (by assumption)
          have q14 : x6_2 < (a0.size : Int) := of_decide_eq_true (by assumption)
          have hx14 := bt_at a0 x6_2
          replace p14 := eq_true p14
          replace q14 := eq_true q14
          have p17 : 0 ≤ (x6_2 : Int) := of_decide_eq_true (by assumption)
          have q17 : x6_2 < (a0.size : Int) := of_decide_eq_true (by assumption)
          have hx17 := bt_at a0 x6_2
          replace p17 := eq_true p17
          replace q17 := eq_true q17
          have p20 : 0 ≤ (x6_2 : Int) := of_decide_eq_true (by assumption)
          have q20 : x6_2 < (a0.size : Int) := of_decide_eq_true (by assumption)
          have hx20 := bt_at a0 x6_2
          replace p20 := eq_true p20
          replace q20 := eq_true q20
          go_wp2
          go_roundg k2
          case measure => have := HJ2.out; have := HK2.out; omega
          case rel => exact ⟨(wrap64 ((wrap64 (10 * x5_2)) + (((bt a0 x6_2) - 48) % 256))), (wrap64 (x6_2 + 1)), (x234000_2), (x234001_2), (by first | rfl | (simp; done) | (simp [*]; done)), (by first | rfl | (simp; done) | (simp [*]; done)), H', ⟨by have := HJ2.out; have := HK2.out; omega⟩, ⟨by exact obk BK233.out⟩, ⟨by exact bok HB.out⟩⟩
       ·
        rw [if_neg c13] at H
        exact absurd H (by simp)
      ·
       rw [if_neg c12] at H
       have c12b0 : decide (x6_2 < (a0.size : Int)) = false := decide_eq_false c12
       clear c12
       by_cases c21 : x5_2 > a1
       ·
        rw [if_pos c21] at H
        have c21b0 : decide (a1 < x5_2) = true := decide_eq_true c21
        clear c21
        simp only [Option.some.injEq, Prod.mk.injEq] at H
        obtain ⟨rfl, rfl⟩ := H
        obtain ⟨hcz22_0, hcz22_1, hfz22_0, hfz22_1⟩ := blk2 BK233.out
        go_wp2
        refine bodyPost_ret (results_cell_row rfl _ _ gb233 101 #[.int .i64 0, .bool false] (0, 0) _ rfl (by exact obk (blk_put (obk (blk_put (obk BK233.out) 0 _ rfl)) 1 _ rfl)) Tryd.underlying101 rfl (by kernel_rfl)) rfl ?_
        exact ⟨by first | rfl | (simp [*, errW_none, errW_some] <;> rfl), by exact bok HB.out⟩
       ·
        rw [if_neg c21] at H
        have c21b0 : decide (a1 < x5_2) = false := decide_eq_false c21
        clear c21
        simp only [Option.some.injEq, Prod.mk.injEq] at H
        obtain ⟨rfl, rfl⟩ := H
        obtain ⟨hcz23_0, hcz23_1, hfz23_0, hfz23_1⟩ := blk2 BK233.out
        go_wp2
        refine bodyPost_ret (results_cell_row rfl _ _ gb233 101 #[.int .i64 x5_2, .bool true] (0, 0) _ rfl (by exact obk (blk_put (obk (blk_put (obk BK233.out) 0 _ rfl)) 1 _ rfl)) Tryd.underlying101 rfl (by kernel_rfl)) rfl ?_
        exact ⟨by first | rfl | (simp [*, errW_none, errW_some] <;> rfl), by exact bok HB.out⟩

/-! ### remontoirref17_number: function 48 -/
def remontoirref17_number.f (k : Nat) (a0 : ByteArray) : Option (Int × Bool) := (remontoirref16_Number.f k a0 999).bind fun bt234 => (some (bt234.1, bt234.2))
set_option maxHeartbeats 8000000 in
set_option maxRecDepth 100000 in
theorem remontoirref17_number.calls (k : Nat) (a0 : ByteArray) (r1 : Int) (r2 : Bool) (w : World) (h : remontoirref17_number.f k a0 = some (r1, r2)) :
  Calls Tryd.prog 48 #[.string a0] w fun e w' => e = .returned (.tuple #[.int .i64 r1, .bool r2]) ∧ Below w.heap.size w w' := by
 have hu101 := Tryd.underlying101
 have HB := mk0 (Below.refl w.heap.size w)
 have H : ((remontoirref16_Number.f k a0 999).bind fun bt234 => (some (bt234.1, bt234.2))) = some (r1, r2) := h
 clear h
 replace H := Option.bind_eq_some_iff.mp H
 obtain ⟨⟨t234, t235⟩, A20, H⟩ := H
 replace H : (some (t234, t235)) = some (r1, r2) := H
 have A2 := mk0 A20
 clear A20
 simp only [Option.some.injEq, Prod.mk.injEq] at H
 obtain ⟨rfl, rfl⟩ := H
 go_enter Tryd.func48, Tryd.ntmps48
 go_wp2_with (first | (go_at_call 61; (with_reducible refine (remontoirref16_Number.calls k a0 999 t234 t235 _ A2.out).mono ?_); rintro e w3 ⟨rfl, hb⟩; have n0_ := mk0 (bst HB.out hb); clear HB; have HB := n0_; clear n0_; (try clear hb)) | ((with_reducible refine gate_dst (N := 4) rfl ?_); refine box_event ?hg (N := 4) ?hd (cs := #[.int .i64 0, .bool false]) (t := 101) ?hr ?_; (case hd => rfl); (case hg => rfl); (case hr => first | (go_simp; done) | (go_simp; rfl)); intro gb236 hg w4 hbox hb; have n0_ := mk0 (bst HB.out hb); have n1_ := mk0 (hbox); have n2_ := mk0 (gle hg HB.out); have n3_ := mk0 (gle hg HB.out); clear HB; have HB := n0_; have BK236 := n1_; have GW236 := n2_; have GE236 := n3_; clear n0_ n1_ n2_ n3_; clear hb hbox hg; obtain ⟨hcz5_0, hcz5_1, hfz5_0, hfz5_1⟩ := blk2 BK236.out))
 repeat (go_quiet (first | (go_at_call 61; (with_reducible refine (remontoirref16_Number.calls k a0 999 t234 t235 _ A2.out).mono ?_); rintro e w3 ⟨rfl, hb⟩; have n0_ := mk0 (bst HB.out hb); clear HB; have HB := n0_; clear n0_; (try clear hb)) | ((with_reducible refine gate_dst (N := 4) rfl ?_); refine box_event ?hg (N := 4) ?hd (cs := #[.int .i64 0, .bool false]) (t := 101) ?hr ?_; (case hd => rfl); (case hg => rfl); (case hr => first | (go_simp; done) | (go_simp; rfl)); intro gb236 hg w4 hbox hb; have n0_ := mk0 (bst HB.out hb); have n1_ := mk0 (hbox); have n2_ := mk0 (gle hg HB.out); have n3_ := mk0 (gle hg HB.out); clear HB; have HB := n0_; have BK236 := n1_; have GW236 := n2_; have GE236 := n3_; clear n0_ n1_ n2_ n3_; clear hb hbox hg; obtain ⟨hcz5_0, hcz5_1, hfz5_0, hfz5_1⟩ := blk2 BK236.out)); try go_wp2_with (first | (go_at_call 61; (with_reducible refine (remontoirref16_Number.calls k a0 999 t234 t235 _ A2.out).mono ?_); rintro e w3 ⟨rfl, hb⟩; have n0_ := mk0 (bst HB.out hb); clear HB; have HB := n0_; clear n0_; (try clear hb)) | ((with_reducible refine gate_dst (N := 4) rfl ?_); refine box_event ?hg (N := 4) ?hd (cs := #[.int .i64 0, .bool false]) (t := 101) ?hr ?_; (case hd => rfl); (case hg => rfl); (case hr => first | (go_simp; done) | (go_simp; rfl)); intro gb236 hg w4 hbox hb; have n0_ := mk0 (bst HB.out hb); have n1_ := mk0 (hbox); have n2_ := mk0 (gle hg HB.out); have n3_ := mk0 (gle hg HB.out); clear HB; have HB := n0_; have BK236 := n1_; have GW236 := n2_; have GE236 := n3_; clear n0_ n1_ n2_ n3_; clear hb hbox hg; obtain ⟨hcz5_0, hcz5_1, hfz5_0, hfz5_1⟩ := blk2 BK236.out)))
 go_ret2
 exact ⟨by first | rfl | (simp [*, errW_none, errW_some] <;> rfl), by exact bok HB.out⟩

end Go.Proofs.YtpalncojmknlbaaDoor.Y
