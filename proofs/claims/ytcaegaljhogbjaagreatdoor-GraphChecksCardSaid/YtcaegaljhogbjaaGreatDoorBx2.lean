/- What Go functions compute, as plain Lean functions, and that the machine comes to just that: written by wip/tools/printx.py (my run of the printer, with contracts of mine beside it). -/
import Derived.Test.YtcaegaljhogbjaaGreatDoorOn
import Derived.Test.YtcaegaljhogbjaaGreatDoorBx0
namespace Go.Proofs.YtcaegaljhogbjaaGreatDoor.B
open Go.Proofs.YtcaegaljhogbjaaGreatDoor.Ext Go.RowKit Go.Proofs.YtcaegaljhogbjaaGreatDoorW.PrintWords Go.Proofs.YtcaegaljhogbjaaGreatDoorW.PrintLast Go.Proofs.YtcaegaljhogbjaaGreatDoorW.PrintMore
attribute [local go_sem] max2_int min2_int max_two min_two max_three min_three max_four min_four   -- for this text's walks alone
set_option linter.unusedVariables false
set_option linter.unusedSimpArgs false

/-! ### zae: function 110 -/
mutual
def zae.j1 : Nat → ByteArray → Int → Int → Option (Int × Int × Bool)
 | 0, _, _, _ => none
 | k + 1, x0, x1, x7 => if x7 = x1 then (zae.j2 k x0 x1 x7 true) else (if (wrap64 (x7 - x1)) > 15 then (zae.j2 k x0 x1 x7 true) else (if 0 ≤ x1 then (if x1 < (x0.size : Int) then (if (bt x0 x1) = 48 then (zae.j2 k x0 x1 x7 (decide ((wrap64 (x7 - x1)) > 1))) else (zae.j2 k x0 x1 x7 false)) else (none)) else (none)))
def zae.j2 : Nat → ByteArray → Int → Int → Bool → Option (Int × Int × Bool)
 | 0, _, _, _, _ => none
 | k + 1, x0, x1, x7, x49 => if x49 = true then (some (0, x1, false)) else (zae.l1 k x0 x7 0 x1)
def zae.l1 : Nat → ByteArray → Int → Int → Int → Option (Int × Int × Bool)
 | 0, _, _, _, _ => none
 | k + 1, x0, x7, x8, x9 => if x9 < x7 then (if 0 ≤ x9 then (if x9 < (x0.size : Int) then (zae.l1 k x0 x7 (IntKind.u64.wrap ((IntKind.u64.wrap (x8 * 10)) + (((bt x0 x9) - 48) % 256))) (wrap64 (x9 + 1))) else (none)) else (none)) else (some (x8, x7, true))
def zae.l0 : Nat → ByteArray → Int → Int → Option (Int × Int × Bool)
 | 0, _, _, _ => none
 | k + 1, x0, x1, x7 => if x7 < (x0.size : Int) then (if 0 ≤ x7 then (if (bt x0 x7) ≥ 48 then (if (bt x0 x7) ≤ 57 then (zae.l0 k x0 x1 (wrap64 (x7 + 1))) else (zae.j1 k x0 x1 x7)) else (zae.j1 k x0 x1 x7)) else (none)) else (zae.j1 k x0 x1 x7)
end
def zae.f (k : Nat) (a0 : ByteArray) (a1 : Int) : Option (Int × Int × Bool) := zae.l0 k a0 a1 a1
set_option maxHeartbeats 8000000 in
set_option maxRecDepth 100000 in
theorem zae.calls (k : Nat) (a0 : ByteArray) (a1 : Int) (r1 : Int) (r2 : Int) (r3 : Bool) (w : World) (h : zae.f k a0 a1 = some (r1, r2, r3)) :
  Calls Tryz.prog 110 #[.string a0, .int .i64 a1] w fun e w' => e = .returned (.tuple #[.int .u64 r1, .int .i64 r2, .bool r3]) ∧ Drawn0 w w' := by
 have H : (zae.l0 k a0 a1 a1) = some (r1, r2, r3) := h
 clear h
 have HC3 := mk0 H
 clear H
 go_enter Tryz.func110, Tryz.ntmps110
 go_upto_block 0 with (fail)
 go_cut [7] (fun v7 wc => ∃ (kq : Nat) (x7_2 : Int), v7 = .int .i64 x7_2 ∧ Aside0 (zae.j1 kq a0 a1 x7_2 = some (r1, r2, r3)) ∧ Aside0 (kq ≤ k) ∧ Drawn0 w wc)
 case first =>
  have H := HC3.out
  clear HC3
  have H' := mk0 H
  clear H
  go_wp2
  go_loopg [7] k (fun kq v7 w' => ∃ (x7_1 : Int), v7 = .int .i64 x7_1 ∧ Aside0 (zae.l0 kq a0 a1 x7_1 = some (r1, r2, r3)) ∧ Aside0 (kq ≤ k) ∧ Drawn0 w w')
  case atStart => exact ⟨(a1), (by first | rfl | (simp; done) | (simp [*]; done)), H', ⟨Nat.le_refl _⟩, by repeat (first | exact Drawn0.refl _ | apply Drawn0.step)⟩
  case round =>
   clear H'
   obtain ⟨x7_1, rfl, HA, HK1, ⟨m1, rfl⟩⟩ := hrel
   cases gk with
   | zero => exact absurd HA.out (by simp [zae.l0])
   | succ k1 =>
    have H := HA.out
    clear HA
    simp only [zae.l0] at H
    by_cases c4 : x7_1 < (a0.size : Int)
    ·
     rw [if_pos c4] at H
     have c4b0 : decide (x7_1 < (a0.size : Int)) = true := decide_eq_true c4
     clear c4
     (first | rw [c4b0] | (simp only [i64_w, i32_w]; rw [c4b0]) | skip)
     by_cases c5 : 0 ≤ x7_1
     ·
      rw [if_pos c5] at H
      have c5b0 : decide (0 ≤ x7_1) = true := decide_eq_true c5
      clear c5
      by_cases c7 : (bt a0 x7_1) ≥ 48
      ·
       rw [if_pos c7] at H
       have c7b0 : decide (48 ≤ (bt a0 x7_1)) = true := decide_eq_true c7
       clear c7
       by_cases c9 : (bt a0 x7_1) ≤ 57
       ·
        rw [if_pos c9] at H
        have c9b0 : decide ((bt a0 x7_1) ≤ 57) = true := decide_eq_true c9
        clear c9
        have H' := mk0 H
        clear H
        have p6 : 0 ≤ (x7_1 : Int) := of_decide_eq_true (by assumption)
        have q6 : x7_1 < (a0.size : Int) := of_decide_eq_true (by assumption)
        have hx6 := bt_at a0 x7_1
        replace p6 := eq_true p6
        replace q6 := eq_true q6
        have p8 : 0 ≤ (x7_1 : Int) := of_decide_eq_true (by assumption)
        have q8 : x7_1 < (a0.size : Int) := of_decide_eq_true (by assumption)
        have hx8 := bt_at a0 x7_1
        replace p8 := eq_true p8
        replace q8 := eq_true q8
        go_wp2
        go_roundg k1
        case measure => have := HK1.out; omega
        case rel => exact ⟨(wrap64 (x7_1 + 1)), (by first | rfl | (simp; done) | (simp [*]; done)), H', ⟨by have := HK1.out; omega⟩, by repeat (first | exact Drawn0.refl _ | apply Drawn0.step)⟩
       ·
        rw [if_neg c9] at H
        have c9b0 : decide ((bt a0 x7_1) ≤ 57) = false := decide_eq_false c9
        clear c9
        have H' := mk0 H
        clear H
        have p6 : 0 ≤ (x7_1 : Int) := of_decide_eq_true (by assumption)
        have q6 : x7_1 < (a0.size : Int) := of_decide_eq_true (by assumption)
        have hx6 := bt_at a0 x7_1
        replace p6 := eq_true p6
        replace q6 := eq_true q6
        have p8 : 0 ≤ (x7_1 : Int) := of_decide_eq_true (by assumption)
        have q8 : x7_1 < (a0.size : Int) := of_decide_eq_true (by assumption)
        have hx8 := bt_at a0 x7_1
        replace p8 := eq_true p8
        replace q8 := eq_true q8
        go_wp2
        go_meet
        case rel => exact ⟨_, (x7_1), (by first | rfl | (simp; done) | (simp [*]; done)), H', ⟨by have := HK1.out; first | omega | exact Nat.le_refl _⟩, by repeat (first | exact Drawn0.refl _ | apply Drawn0.step)⟩
      ·
       rw [if_neg c7] at H
       have c7b0 : decide (48 ≤ (bt a0 x7_1)) = false := decide_eq_false c7
       clear c7
       have H' := mk0 H
       clear H
       have p6 : 0 ≤ (x7_1 : Int) := of_decide_eq_true (by assumption)
       have q6 : x7_1 < (a0.size : Int) := of_decide_eq_true (by assumption)
       have hx6 := bt_at a0 x7_1
       replace p6 := eq_true p6
       replace q6 := eq_true q6
       go_wp2
       go_meet
       case rel => exact ⟨_, (x7_1), (by first | rfl | (simp; done) | (simp [*]; done)), H', ⟨by have := HK1.out; first | omega | exact Nat.le_refl _⟩, by repeat (first | exact Drawn0.refl _ | apply Drawn0.step)⟩
     ·
      rw [if_neg c5] at H
      exact absurd H (by simp)
    ·
     rw [if_neg c4] at H
     have c4b0 : decide (x7_1 < (a0.size : Int)) = false := decide_eq_false c4
     clear c4
     (first | rw [c4b0] | (simp only [i64_w, i32_w]; rw [c4b0]) | skip)
     have H' := mk0 H
     clear H
     go_wp2
     go_meet
     case rel => exact ⟨_, (x7_1), (by first | rfl | (simp; done) | (simp [*]; done)), H', ⟨by have := HK1.out; first | omega | exact Nat.le_refl _⟩, by repeat (first | exact Drawn0.refl _ | apply Drawn0.step)⟩
 case rest =>
  clear HC3
  obtain ⟨kq, x7_2, rfl, HA, HJ2, ⟨mc2, rfl⟩⟩ := hcut
  cases kq with
  | zero => exact absurd HA.out (by simp [zae.j1])
  | succ kj2 =>
   have H := HA.out
   clear HA
   simp only [zae.j1] at H
   have HC10 := mk0 H
   clear H
   go_upto_region 4 with (fail)
   go_cut [49] (fun v49 wc => ∃ (kq : Nat) (x49_9 : Bool), v49 = .bool x49_9 ∧ Aside0 (zae.j2 kq a0 a1 x7_2 x49_9 = some (r1, r2, r3)) ∧ Aside0 (kq ≤ kj2) ∧ Drawn0 w wc)
   case first =>
    have H := HC10.out
    clear HC10
    by_cases c11 : x7_2 = a1
    ·
     rw [if_pos c11] at H
     have c11b0 : (x7_2 == a1) = true := beq_iff_eq.mpr c11
     have c11b1 : (x7_2 != a1) = false := bne_eq_false_iff_eq.mpr c11
     clear c11
     (first | rw [c11b0] | (simp only [i64_w, i32_w]; rw [c11b0]) | skip)
     have H' := mk0 H
     clear H
     go_wp2
     go_meet
     case rel => exact ⟨_, (true), (by first | rfl | (simp; done) | (simp [*]; done)), H', ⟨by have := HJ2.out; first | omega | exact Nat.le_refl _⟩, by repeat (first | exact Drawn0.refl _ | apply Drawn0.step)⟩
    ·
     rw [if_neg c11] at H
     have c11b0 : (x7_2 == a1) = false := beq_eq_false_iff_ne.mpr c11
     have c11b1 : (x7_2 != a1) = true := bne_iff_ne.mpr c11
     (first | rw [c11b0] | (simp only [i64_w, i32_w]; rw [c11b0]) | skip)
     by_cases c12 : (wrap64 (x7_2 - a1)) > 15
     ·
      rw [if_pos c12] at H
      have c12b0 : decide (15 < (wrap64 (x7_2 - a1))) = true := decide_eq_true c12
      clear c12
      have H' := mk0 H
      clear H
      go_wp2
      go_meet
      case rel => exact ⟨_, (true), (by first | rfl | (simp; done) | (simp [*]; done)), H', ⟨by have := HJ2.out; first | omega | exact Nat.le_refl _⟩, by repeat (first | exact Drawn0.refl _ | apply Drawn0.step)⟩
     ·
      rw [if_neg c12] at H
      have c12b0 : decide (15 < (wrap64 (x7_2 - a1))) = false := decide_eq_false c12
      clear c12
      by_cases c13 : 0 ≤ a1
      ·
       rw [if_pos c13] at H
       have c13b0 : decide (0 ≤ a1) = true := decide_eq_true c13
       clear c13
       by_cases c14 : a1 < (a0.size : Int)
       ·
        rw [if_pos c14] at H
        have c14b0 : decide (a1 < (a0.size : Int)) = true := decide_eq_true c14
        clear c14
        by_cases c16 : (bt a0 a1) = 48
        ·
         rw [if_pos c16] at H
         have c16b0 : ((bt a0 a1) == 48) = true := beq_iff_eq.mpr c16
         have c16b1 : ((bt a0 a1) != 48) = false := bne_eq_false_iff_eq.mpr c16
         clear c16
         have H' := mk0 H
         clear H
         have p15 : 0 ≤ (a1 : Int) := of_decide_eq_true (by assumption)
         have q15 : a1 < (a0.size : Int) := of_decide_eq_true (by assumption)
         have hx15 := bt_at a0 a1
         replace p15 := eq_true p15
         replace q15 := eq_true q15
         go_wp2
         go_meet
         case rel => exact ⟨_, (decide ((wrap64 (x7_2 - a1)) > 1)), (by first | rfl | (simp; done) | (simp [*]; done)), H', ⟨by have := HJ2.out; first | omega | exact Nat.le_refl _⟩, by repeat (first | exact Drawn0.refl _ | apply Drawn0.step)⟩
        ·
         rw [if_neg c16] at H
         have c16b0 : ((bt a0 a1) == 48) = false := beq_eq_false_iff_ne.mpr c16
         have c16b1 : ((bt a0 a1) != 48) = true := bne_iff_ne.mpr c16
         have H' := mk0 H
         clear H
         have p15 : 0 ≤ (a1 : Int) := of_decide_eq_true (by assumption)
         have q15 : a1 < (a0.size : Int) := of_decide_eq_true (by assumption)
         have hx15 := bt_at a0 a1
         replace p15 := eq_true p15
         replace q15 := eq_true q15
         go_wp2
         go_meet
         case rel => exact ⟨_, (false), (by first | rfl | (simp; done) | (simp [*]; done)), H', ⟨by have := HJ2.out; first | omega | exact Nat.le_refl _⟩, by repeat (first | exact Drawn0.refl _ | apply Drawn0.step)⟩
       ·
        rw [if_neg c14] at H
        exact absurd H (by simp)
      ·
       rw [if_neg c13] at H
       exact absurd H (by simp)
   case rest =>
    clear HC10
    obtain ⟨kq, x49_9, rfl, HA, HJ9, ⟨mc9, rfl⟩⟩ := hcut
    cases kq with
    | zero => exact absurd HA.out (by simp [zae.j2])
    | succ kj9 =>
     have H := HA.out
     clear HA
     simp only [zae.j2] at H
     by_cases c17 : x49_9 = true
     ·
      subst c17
      have H1 : (some (0, a1, false)) = some (r1, r2, r3) := by rw [if_pos rfl] at H; exact H
      clear H
      have H := H1
      clear H1
      simp only [Option.some.injEq, Prod.mk.injEq] at H
      obtain ⟨rfl, rfl, rfl⟩ := H
      go_wp2
      go_ret3
      exact ⟨by first | rfl | (simp; done) | (simp [*]; done) | (simp; exact isEmpty_ne _), by repeat (first | exact Drawn0.refl _ | apply Drawn0.step)⟩
     ·
      replace c17 := Bool.eq_false_iff.mpr c17
      subst c17
      have H1 : (zae.l1 kj9 a0 x7_2 0 a1) = some (r1, r2, r3) := by rw [if_neg (show ¬ (false = true) by decide)] at H; exact H
      clear H
      have H := H1
      clear H1
      have H' := mk0 H
      clear H
      go_wp2
      go_loopg [8, 9] kj9 (fun kq v8 v9 w' => ∃ (x8_3 : Int) (x9_3 : Int), v8 = .int .u64 x8_3 ∧ v9 = .int .i64 x9_3 ∧ Aside0 (zae.l1 kq a0 x7_2 x8_3 x9_3 = some (r1, r2, r3)) ∧ Aside0 (kq ≤ kj9) ∧ Drawn0 w w')
      case atStart => exact ⟨(0), (a1), (by first | rfl | (simp; done) | (simp [*]; done)), (by first | rfl | (simp; done) | (simp [*]; done)), H', ⟨Nat.le_refl _⟩, by repeat (first | exact Drawn0.refl _ | apply Drawn0.step)⟩
      case round =>
       clear H'
       obtain ⟨x8_3, x9_3, rfl, rfl, HA, HK3, ⟨m3, rfl⟩⟩ := hrel
       cases gk with
       | zero => exact absurd HA.out (by simp [zae.l1])
       | succ k3 =>
        have H := HA.out
        clear HA
        simp only [zae.l1] at H
        by_cases c18 : x9_3 < x7_2
        ·
         rw [if_pos c18] at H
         have c18b0 : decide (x9_3 < x7_2) = true := decide_eq_true c18
         clear c18
         by_cases c19 : 0 ≤ x9_3
         ·
          rw [if_pos c19] at H
          have c19b0 : decide (0 ≤ x9_3) = true := decide_eq_true c19
          clear c19
          by_cases c20 : x9_3 < (a0.size : Int)
          ·
           rw [if_pos c20] at H
           have c20b0 : decide (x9_3 < (a0.size : Int)) = true := decide_eq_true c20
           clear c20
           have H' := mk0 H
           clear H
           have p21 : 0 ≤ (x9_3 : Int) := of_decide_eq_true (by assumption)
           have q21 : x9_3 < (a0.size : Int) := of_decide_eq_true (by assumption)
           have hx21 := bt_at a0 x9_3
           replace p21 := eq_true p21
           replace q21 := eq_true q21
           go_wp2
           go_roundg k3
           case measure => have := HJ2.out; have := HJ9.out; have := HK3.out; omega
           case rel => exact ⟨(IntKind.u64.wrap ((IntKind.u64.wrap (x8_3 * 10)) + (((bt a0 x9_3) - 48) % 256))), (wrap64 (x9_3 + 1)), (by first | rfl | (simp; done) | (simp [*]; done)), (by first | rfl | (simp; done) | (simp [*]; done)), H', ⟨by have := HJ2.out; have := HJ9.out; have := HK3.out; omega⟩, by repeat (first | exact Drawn0.refl _ | apply Drawn0.step)⟩
          ·
           rw [if_neg c20] at H
           exact absurd H (by simp)
         ·
          rw [if_neg c19] at H
          exact absurd H (by simp)
        ·
         rw [if_neg c18] at H
         have c18b0 : decide (x9_3 < x7_2) = false := decide_eq_false c18
         clear c18
         simp only [Option.some.injEq, Prod.mk.injEq] at H
         obtain ⟨rfl, rfl, rfl⟩ := H
         go_wp2
         go_ret3
         exact ⟨by first | rfl | (simp; done) | (simp [*]; done) | (simp; exact isEmpty_ne _), by repeat (first | exact Drawn0.refl _ | apply Drawn0.step)⟩

end Go.Proofs.YtcaegaljhogbjaaGreatDoor.B
