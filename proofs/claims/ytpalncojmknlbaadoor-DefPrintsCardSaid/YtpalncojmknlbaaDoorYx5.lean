/- What Go functions compute, as plain Lean functions, and that the machine comes to just that: written by wip/tools/printx.py (my run of the printer, with contracts of mine beside it). -/
import Derived.Test.YtpalncojmknlbaaDoorOn
import Derived.Test.YtpalncojmknlbaaDoorDefNode
import Derived.Test.YtpalncojmknlbaaDoorDefWrite
import Derived.Test.YtpalncojmknlbaaDoorAx2
import Derived.Test.YtpalncojmknlbaaDoorYx0
import Derived.Test.YtpalncojmknlbaaDoorYx2
import Derived.Test.YtpalncojmknlbaaDoorYx4
namespace Go.Proofs.YtpalncojmknlbaaDoor.Y
open Go.Proofs.YtpalncojmknlbaaDoor.Ext Go.Proofs.YtpalncojmknlbaaDoor.A Go.RowKit Go.Proofs.YtpalncojmknlbaaDoorW.PrintWords Go.Proofs.YtpalncojmknlbaaDoorW.PrintLast Go.Proofs.YtpalncojmknlbaaDoorW.PrintMore
attribute [local go_sem] max2_int min2_int max_two min_two max_three min_three max_four min_four   -- for this text's walks alone
set_option linter.unusedVariables false
set_option linter.unusedSimpArgs false

attribute [local go_sem high] eqA40 eqA42
/-! ### api_Node: function 16 -/
def api_Node.l0 : Nat → List (S40) → List (S40) → Int → Int → Option (Bool)
 | 0, _, _, _, _ => none
 | k + 1, x0, x1, x12, x13 => if x13 < x12 then (if 0 ≤ x13 then (if x13 < (x0.length : Int) then (if x13 < (x1.length : Int) then (if (!(((rd_T40 x0 x13).f0) == ((rd_T40 x1 x13).f0)) || (!(((rd_T40 x0 x13).f1) == ((rd_T40 x1 x13).f1)) || (!(((rd_T40 x0 x13).f2) == ((rd_T40 x1 x13).f2)) || (!(((rd_T40 x0 x13).f3) == ((rd_T40 x1 x13).f3)) || (!((((rd_T40 x0 x13).f4).toList) == (((rd_T40 x1 x13).f4).toList))))))) = true then (some false) else (api_Node.l0 k x0 x1 x12 (wrap64 (x13 + 1)))) else (none)) else (none)) else (none)) else (some true)
def api_Node.f (k : Nat) (l0 : List (S40)) (l1 : List (S40)) : Option (Bool) := if (l0.length : Int) = (l1.length : Int) then (api_Node.l0 k l0 l1 (l0.length : Int) 0) else (some false)
theorem api_Node.mono_l : ∀ k, (∀ y0 y1 y2 y3, LeO (api_Node.l0 k y0 y1 y2 y3) (api_Node.l0 (k + 1) y0 y1 y2 y3))
 | 0 => fun _ _ _ _ r h => by simp [api_Node.l0] at h
 | k + 1 => by
  have ih0 := api_Node.mono_l k
  ·
   intro y0 y1 y2 y3
   unfold api_Node.l0
   repeat' first
   | (with_reducible exact ih0 _ _ _ _)
   | (with_reducible exact LeO.refl _)
   | (with_reducible exact LeO.none _)
   | (with_reducible refine LeO.ite ?_ ?_)
   | (with_reducible refine LeO.bind ?_ (fun _ => ?_))
   | exact ih0 _ _ _ _
   | exact LeO.none _
   | refine LeO.ite ?_ ?_
   | refine LeO.bind ?_ (fun _ => ?_)
theorem api_Node.mono : ∀ a0 a1 k, LeO (api_Node.f k a0 a1) (api_Node.f (k + 1) a0 a1) := by
 intro a0 a1 k
 have ih0 := api_Node.mono_l k
 unfold api_Node.f
 repeat' first
   | (with_reducible exact ih0 _ _ _ _)
   | (with_reducible exact LeO.refl _)
   | (with_reducible exact LeO.none _)
   | (with_reducible refine LeO.ite ?_ ?_)
   | (with_reducible refine LeO.bind ?_ (fun _ => ?_))
   | exact ih0 _ _ _ _
   | exact LeO.none _
   | refine LeO.ite ?_ ?_
   | refine LeO.bind ?_ (fun _ => ?_)
set_option maxHeartbeats 8000000 in
set_option maxRecDepth 100000 in
theorem api_Node.calls (k : Nat) (A0 : Option Addr) (c0 : Nat) (l0 : List (S40)) (A1 : Option Addr) (c1 : Nat) (l1 : List (S40)) (r : Bool) (w : World) (hr0 : Kd.C k40 w A0 l0.length l0) (hc0 : l0.length ≤ c0) (hr1 : Kd.C k40 w A1 l1.length l1) (hc1 : l1.length ≤ c1) (h : api_Node.f k l0 l1 = some r) :
  Calls Tryd.prog 16 #[.slice A0 l0.length c0, .slice A1 l1.length c1] w fun e w' => e = .returned (.bool r) ∧ Drawn0 w w' := by
 have hu40 := Tryd.underlying40
 have HR0 := mk0 hr0
 have HC0 := mk0 hc0
 clear hr0 hc0
 have HR1 := mk0 hr1
 have HC1 := mk0 hc1
 clear hr1 hc1
 have H : (if (l0.length : Int) = (l1.length : Int) then (api_Node.l0 k l0 l1 (l0.length : Int) 0) else (some false)) = some r := h
 clear h
 by_cases c3 : (l0.length : Int) = (l1.length : Int)
 ·
  rw [if_pos c3] at H
  have c3b0 : ((l0.length : Int) == (l1.length : Int)) = true := beq_iff_eq.mpr c3
  have c3b1 : ((l0.length : Int) != (l1.length : Int)) = false := bne_eq_false_iff_eq.mpr c3
  have c3b2 : (l0.length == l1.length) = true := by first | simpa using c3 | (simp at c3 ⊢; omega)
  clear c3
  have H' := mk0 H
  clear H
  go_enter Tryd.func16, Tryd.ntmps16
  go_wp2
  repeat (go_quiet (fail); try go_wp2)
  go_loopg [13] k (fun kq v13 w' => ∃ (x13_1 : Int), v13 = .int .i64 x13_1 ∧ Aside0 (api_Node.l0 kq l0 l1 (l0.length : Int) x13_1 = some r) ∧ Aside0 (kq ≤ k) ∧ Drawn0 w w')
  case atStart => exact ⟨(0), (by first | rfl | (simp; done) | (simp [*]; done)), H', ⟨Nat.le_refl _⟩, by repeat (first | exact Drawn0.refl _ | apply Drawn0.step)⟩
  case round =>
   clear H'
   try clear c1
   try clear p2
   try clear c3
   try clear c3b0
   try clear c3b1
   try clear c3b2
   obtain ⟨x13_1, rfl, HA, HK1, ⟨m1, rfl⟩⟩ := hrel
   cases gk with
   | zero => exact absurd HA.out (by simp [api_Node.l0])
   | succ k1 =>
    have H := HA.out
    clear HA
    simp only [api_Node.l0] at H
    by_cases c4 : x13_1 < (l0.length : Int)
    ·
     rw [if_pos c4] at H
     have c4b0 : decide (x13_1 < (l0.length : Int)) = true := decide_eq_true c4
     clear c4
     by_cases c5 : 0 ≤ x13_1
     ·
      rw [if_pos c5] at H
      have c5b0 : decide (0 ≤ x13_1) = true := decide_eq_true c5
      clear c5
      by_cases c6 : x13_1 < (l0.length : Int)
      ·
       rw [if_pos c6] at H
       have c6b0 : decide (x13_1 < (l0.length : Int)) = true := decide_eq_true c6
       clear c6
       by_cases c7 : x13_1 < (l1.length : Int)
       ·
        rw [if_pos c7] at H
        have c7b0 : decide (x13_1 < (l1.length : Int)) = true := decide_eq_true c7
        clear c7
        by_cases c8 : (!(((rd_T40 l0 x13_1).f0) == ((rd_T40 l1 x13_1).f0)) || (!(((rd_T40 l0 x13_1).f1) == ((rd_T40 l1 x13_1).f1)) || (!(((rd_T40 l0 x13_1).f2) == ((rd_T40 l1 x13_1).f2)) || (!(((rd_T40 l0 x13_1).f3) == ((rd_T40 l1 x13_1).f3)) || (!((((rd_T40 l0 x13_1).f4).toList) == (((rd_T40 l1 x13_1).f4).toList))))))) = true
        ·
         rw [if_pos c8] at H
         have c8b0 : (!(((rd_T40 l0 x13_1).f0) == ((rd_T40 l1 x13_1).f0)) || (!(((rd_T40 l0 x13_1).f1) == ((rd_T40 l1 x13_1).f1)) || (!(((rd_T40 l0 x13_1).f2) == ((rd_T40 l1 x13_1).f2)) || (!(((rd_T40 l0 x13_1).f3) == ((rd_T40 l1 x13_1).f3)) || (!((((rd_T40 l0 x13_1).f4).toList) == (((rd_T40 l1 x13_1).f4).toList))))))) = true := c8
         clear c8
         obtain rfl := Option.some.inj H
         have p144 : 0 ≤ (x13_1 : Int) := of_decide_eq_true (by assumption)
         have q144 : x13_1 < (l0.length : Int) := of_decide_eq_true (by assumption)
         obtain ⟨ad144, e144, hx144_0, hx144_1, hx144_2, hx144_3, hx144_4⟩ := at_T40 HR0.out x13_1 p144 q144
         cases e144
         replace p144 := eq_true p144
         replace q144 := eq_true q144
         have p145 : 0 ≤ (x13_1 : Int) := of_decide_eq_true (by assumption)
         have q145 : x13_1 < (l1.length : Int) := of_decide_eq_true (by assumption)
         obtain ⟨ad145, e145, hx145_0, hx145_1, hx145_2, hx145_3, hx145_4⟩ := at_T40 HR1.out x13_1 p145 q145
         cases e145
         replace p145 := eq_true p145
         replace q145 := eq_true q145
         go_wp2
         repeat (go_quiet (fail); try go_wp2)
         go_ret
         exact ⟨by first | rfl | (simp; done) | (simp [*]; done) | (simp; exact isEmpty_ne _), by repeat (first | exact Drawn0.refl _ | apply Drawn0.step)⟩
        ·
         rw [if_neg c8] at H
         have c8b0 : (!(((rd_T40 l0 x13_1).f0) == ((rd_T40 l1 x13_1).f0)) || (!(((rd_T40 l0 x13_1).f1) == ((rd_T40 l1 x13_1).f1)) || (!(((rd_T40 l0 x13_1).f2) == ((rd_T40 l1 x13_1).f2)) || (!(((rd_T40 l0 x13_1).f3) == ((rd_T40 l1 x13_1).f3)) || (!((((rd_T40 l0 x13_1).f4).toList) == (((rd_T40 l1 x13_1).f4).toList))))))) = false := by simpa using c8
         clear c8
         have H' := mk0 H
         clear H
         have p144 : 0 ≤ (x13_1 : Int) := of_decide_eq_true (by assumption)
         have q144 : x13_1 < (l0.length : Int) := of_decide_eq_true (by assumption)
         obtain ⟨ad144, e144, hx144_0, hx144_1, hx144_2, hx144_3, hx144_4⟩ := at_T40 HR0.out x13_1 p144 q144
         cases e144
         replace p144 := eq_true p144
         replace q144 := eq_true q144
         have p145 : 0 ≤ (x13_1 : Int) := of_decide_eq_true (by assumption)
         have q145 : x13_1 < (l1.length : Int) := of_decide_eq_true (by assumption)
         obtain ⟨ad145, e145, hx145_0, hx145_1, hx145_2, hx145_3, hx145_4⟩ := at_T40 HR1.out x13_1 p145 q145
         cases e145
         replace p145 := eq_true p145
         replace q145 := eq_true q145
         go_wp2
         repeat (go_quiet (fail); try go_wp2)
         go_roundg k1
         case measure => have := HK1.out; omega
         case rel => exact ⟨(wrap64 (x13_1 + 1)), (by first | rfl | (simp; done) | (simp [*]; done)), H', ⟨by have := HK1.out; omega⟩, by repeat (first | exact Drawn0.refl _ | apply Drawn0.step)⟩
       ·
        rw [if_neg c7] at H
        exact absurd H (by simp)
      ·
       rw [if_neg c6] at H
       exact absurd H (by simp)
     ·
      rw [if_neg c5] at H
      exact absurd H (by simp)
    ·
     rw [if_neg c4] at H
     have c4b0 : decide (x13_1 < (l0.length : Int)) = false := decide_eq_false c4
     clear c4
     obtain rfl := Option.some.inj H
     go_wp2
     repeat (go_quiet (fail); try go_wp2)
     go_ret
     exact ⟨by first | rfl | (simp; done) | (simp [*]; done) | (simp; exact isEmpty_ne _), by repeat (first | exact Drawn0.refl _ | apply Drawn0.step)⟩
 ·
  rw [if_neg c3] at H
  have c3b0 : ((l0.length : Int) == (l1.length : Int)) = false := beq_eq_false_iff_ne.mpr c3
  have c3b1 : ((l0.length : Int) != (l1.length : Int)) = true := bne_iff_ne.mpr c3
  have c3b2 : (l0.length == l1.length) = false := by first | simpa using c3 | (simp at c3 ⊢; omega)
  obtain rfl := Option.some.inj H
  go_enter Tryd.func16, Tryd.ntmps16
  go_wp2
  repeat (go_quiet (fail); try go_wp2)
  go_ret
  exact ⟨by first | rfl | (simp; done) | (simp [*]; done) | (simp; exact isEmpty_ne _), by repeat (first | exact Drawn0.refl _ | apply Drawn0.step)⟩

/-! ### api_Flow: function 17 -/
def api_Flow.l0 : Nat → List (S42) → List (S42) → Int → Int → Option (Bool)
 | 0, _, _, _, _ => none
 | k + 1, x0, x1, x12, x13 => if x13 < x12 then (if 0 ≤ x13 then (if x13 < (x0.length : Int) then (if x13 < (x1.length : Int) then (if (!(((rd_T42 x0 x13).f0) == ((rd_T42 x1 x13).f0)) || (!(((rd_T42 x0 x13).f1) == ((rd_T42 x1 x13).f1)) || (!(((rd_T42 x0 x13).f2) == ((rd_T42 x1 x13).f2)) || (!(((rd_T42 x0 x13).f3) == ((rd_T42 x1 x13).f3)) || (!((((rd_T42 x0 x13).f4).toList) == (((rd_T42 x1 x13).f4).toList))))))) = true then (some false) else (api_Flow.l0 k x0 x1 x12 (wrap64 (x13 + 1)))) else (none)) else (none)) else (none)) else (some true)
def api_Flow.f (k : Nat) (l0 : List (S42)) (l1 : List (S42)) : Option (Bool) := if (l0.length : Int) = (l1.length : Int) then (api_Flow.l0 k l0 l1 (l0.length : Int) 0) else (some false)
theorem api_Flow.mono_l : ∀ k, (∀ y0 y1 y2 y3, LeO (api_Flow.l0 k y0 y1 y2 y3) (api_Flow.l0 (k + 1) y0 y1 y2 y3))
 | 0 => fun _ _ _ _ r h => by simp [api_Flow.l0] at h
 | k + 1 => by
  have ih0 := api_Flow.mono_l k
  ·
   intro y0 y1 y2 y3
   unfold api_Flow.l0
   repeat' first
   | (with_reducible exact ih0 _ _ _ _)
   | (with_reducible exact LeO.refl _)
   | (with_reducible exact LeO.none _)
   | (with_reducible refine LeO.ite ?_ ?_)
   | (with_reducible refine LeO.bind ?_ (fun _ => ?_))
   | exact ih0 _ _ _ _
   | exact LeO.none _
   | refine LeO.ite ?_ ?_
   | refine LeO.bind ?_ (fun _ => ?_)
theorem api_Flow.mono : ∀ a0 a1 k, LeO (api_Flow.f k a0 a1) (api_Flow.f (k + 1) a0 a1) := by
 intro a0 a1 k
 have ih0 := api_Flow.mono_l k
 unfold api_Flow.f
 repeat' first
   | (with_reducible exact ih0 _ _ _ _)
   | (with_reducible exact LeO.refl _)
   | (with_reducible exact LeO.none _)
   | (with_reducible refine LeO.ite ?_ ?_)
   | (with_reducible refine LeO.bind ?_ (fun _ => ?_))
   | exact ih0 _ _ _ _
   | exact LeO.none _
   | refine LeO.ite ?_ ?_
   | refine LeO.bind ?_ (fun _ => ?_)
set_option maxHeartbeats 8000000 in
set_option maxRecDepth 100000 in
theorem api_Flow.calls (k : Nat) (A0 : Option Addr) (c0 : Nat) (l0 : List (S42)) (A1 : Option Addr) (c1 : Nat) (l1 : List (S42)) (r : Bool) (w : World) (hr0 : Kd.C k42 w A0 l0.length l0) (hc0 : l0.length ≤ c0) (hr1 : Kd.C k42 w A1 l1.length l1) (hc1 : l1.length ≤ c1) (h : api_Flow.f k l0 l1 = some r) :
  Calls Tryd.prog 17 #[.slice A0 l0.length c0, .slice A1 l1.length c1] w fun e w' => e = .returned (.bool r) ∧ Drawn0 w w' := by
 have hu42 := Tryd.underlying42
 have HR0 := mk0 hr0
 have HC0 := mk0 hc0
 clear hr0 hc0
 have HR1 := mk0 hr1
 have HC1 := mk0 hc1
 clear hr1 hc1
 have H : (if (l0.length : Int) = (l1.length : Int) then (api_Flow.l0 k l0 l1 (l0.length : Int) 0) else (some false)) = some r := h
 clear h
 by_cases c3 : (l0.length : Int) = (l1.length : Int)
 ·
  rw [if_pos c3] at H
  have c3b0 : ((l0.length : Int) == (l1.length : Int)) = true := beq_iff_eq.mpr c3
  have c3b1 : ((l0.length : Int) != (l1.length : Int)) = false := bne_eq_false_iff_eq.mpr c3
  have c3b2 : (l0.length == l1.length) = true := by first | simpa using c3 | (simp at c3 ⊢; omega)
  clear c3
  have H' := mk0 H
  clear H
  go_enter Tryd.func17, Tryd.ntmps17
  go_wp2
  repeat (go_quiet (fail); try go_wp2)
  go_loopg [13] k (fun kq v13 w' => ∃ (x13_1 : Int), v13 = .int .i64 x13_1 ∧ Aside0 (api_Flow.l0 kq l0 l1 (l0.length : Int) x13_1 = some r) ∧ Aside0 (kq ≤ k) ∧ Drawn0 w w')
  case atStart => exact ⟨(0), (by first | rfl | (simp; done) | (simp [*]; done)), H', ⟨Nat.le_refl _⟩, by repeat (first | exact Drawn0.refl _ | apply Drawn0.step)⟩
  case round =>
   clear H'
   try clear c1
   try clear p2
   try clear c3
   try clear c3b0
   try clear c3b1
   try clear c3b2
   obtain ⟨x13_1, rfl, HA, HK1, ⟨m1, rfl⟩⟩ := hrel
   cases gk with
   | zero => exact absurd HA.out (by simp [api_Flow.l0])
   | succ k1 =>
    have H := HA.out
    clear HA
    simp only [api_Flow.l0] at H
    by_cases c4 : x13_1 < (l0.length : Int)
    ·
     rw [if_pos c4] at H
     have c4b0 : decide (x13_1 < (l0.length : Int)) = true := decide_eq_true c4
     clear c4
     by_cases c5 : 0 ≤ x13_1
     ·
      rw [if_pos c5] at H
      have c5b0 : decide (0 ≤ x13_1) = true := decide_eq_true c5
      clear c5
      by_cases c6 : x13_1 < (l0.length : Int)
      ·
       rw [if_pos c6] at H
       have c6b0 : decide (x13_1 < (l0.length : Int)) = true := decide_eq_true c6
       clear c6
       by_cases c7 : x13_1 < (l1.length : Int)
       ·
        rw [if_pos c7] at H
        have c7b0 : decide (x13_1 < (l1.length : Int)) = true := decide_eq_true c7
        clear c7
        by_cases c8 : (!(((rd_T42 l0 x13_1).f0) == ((rd_T42 l1 x13_1).f0)) || (!(((rd_T42 l0 x13_1).f1) == ((rd_T42 l1 x13_1).f1)) || (!(((rd_T42 l0 x13_1).f2) == ((rd_T42 l1 x13_1).f2)) || (!(((rd_T42 l0 x13_1).f3) == ((rd_T42 l1 x13_1).f3)) || (!((((rd_T42 l0 x13_1).f4).toList) == (((rd_T42 l1 x13_1).f4).toList))))))) = true
        ·
         rw [if_pos c8] at H
         have c8b0 : (!(((rd_T42 l0 x13_1).f0) == ((rd_T42 l1 x13_1).f0)) || (!(((rd_T42 l0 x13_1).f1) == ((rd_T42 l1 x13_1).f1)) || (!(((rd_T42 l0 x13_1).f2) == ((rd_T42 l1 x13_1).f2)) || (!(((rd_T42 l0 x13_1).f3) == ((rd_T42 l1 x13_1).f3)) || (!((((rd_T42 l0 x13_1).f4).toList) == (((rd_T42 l1 x13_1).f4).toList))))))) = true := c8
         clear c8
         obtain rfl := Option.some.inj H
         have p146 : 0 ≤ (x13_1 : Int) := of_decide_eq_true (by assumption)
         have q146 : x13_1 < (l0.length : Int) := of_decide_eq_true (by assumption)
         obtain ⟨ad146, e146, hx146_0, hx146_1, hx146_2, hx146_3, hx146_4⟩ := at_T42 HR0.out x13_1 p146 q146
         cases e146
         replace p146 := eq_true p146
         replace q146 := eq_true q146
         have p147 : 0 ≤ (x13_1 : Int) := of_decide_eq_true (by assumption)
         have q147 : x13_1 < (l1.length : Int) := of_decide_eq_true (by assumption)
         obtain ⟨ad147, e147, hx147_0, hx147_1, hx147_2, hx147_3, hx147_4⟩ := at_T42 HR1.out x13_1 p147 q147
         cases e147
         replace p147 := eq_true p147
         replace q147 := eq_true q147
         go_wp2
         repeat (go_quiet (fail); try go_wp2)
         go_ret
         exact ⟨by first | rfl | (simp; done) | (simp [*]; done) | (simp; exact isEmpty_ne _), by repeat (first | exact Drawn0.refl _ | apply Drawn0.step)⟩
        ·
         rw [if_neg c8] at H
         have c8b0 : (!(((rd_T42 l0 x13_1).f0) == ((rd_T42 l1 x13_1).f0)) || (!(((rd_T42 l0 x13_1).f1) == ((rd_T42 l1 x13_1).f1)) || (!(((rd_T42 l0 x13_1).f2) == ((rd_T42 l1 x13_1).f2)) || (!(((rd_T42 l0 x13_1).f3) == ((rd_T42 l1 x13_1).f3)) || (!((((rd_T42 l0 x13_1).f4).toList) == (((rd_T42 l1 x13_1).f4).toList))))))) = false := by simpa using c8
         clear c8
         have H' := mk0 H
         clear H
         have p146 : 0 ≤ (x13_1 : Int) := of_decide_eq_true (by assumption)
         have q146 : x13_1 < (l0.length : Int) := of_decide_eq_true (by assumption)
         obtain ⟨ad146, e146, hx146_0, hx146_1, hx146_2, hx146_3, hx146_4⟩ := at_T42 HR0.out x13_1 p146 q146
         cases e146
         replace p146 := eq_true p146
         replace q146 := eq_true q146
         have p147 : 0 ≤ (x13_1 : Int) := of_decide_eq_true (by assumption)
         have q147 : x13_1 < (l1.length : Int) := of_decide_eq_true (by assumption)
         obtain ⟨ad147, e147, hx147_0, hx147_1, hx147_2, hx147_3, hx147_4⟩ := at_T42 HR1.out x13_1 p147 q147
         cases e147
         replace p147 := eq_true p147
         replace q147 := eq_true q147
         go_wp2
         repeat (go_quiet (fail); try go_wp2)
         go_roundg k1
         case measure => have := HK1.out; omega
         case rel => exact ⟨(wrap64 (x13_1 + 1)), (by first | rfl | (simp; done) | (simp [*]; done)), H', ⟨by have := HK1.out; omega⟩, by repeat (first | exact Drawn0.refl _ | apply Drawn0.step)⟩
       ·
        rw [if_neg c7] at H
        exact absurd H (by simp)
      ·
       rw [if_neg c6] at H
       exact absurd H (by simp)
     ·
      rw [if_neg c5] at H
      exact absurd H (by simp)
    ·
     rw [if_neg c4] at H
     have c4b0 : decide (x13_1 < (l0.length : Int)) = false := decide_eq_false c4
     clear c4
     obtain rfl := Option.some.inj H
     go_wp2
     repeat (go_quiet (fail); try go_wp2)
     go_ret
     exact ⟨by first | rfl | (simp; done) | (simp [*]; done) | (simp; exact isEmpty_ne _), by repeat (first | exact Drawn0.refl _ | apply Drawn0.step)⟩
 ·
  rw [if_neg c3] at H
  have c3b0 : ((l0.length : Int) == (l1.length : Int)) = false := beq_eq_false_iff_ne.mpr c3
  have c3b1 : ((l0.length : Int) != (l1.length : Int)) = true := bne_iff_ne.mpr c3
  have c3b2 : (l0.length == l1.length) = false := by first | simpa using c3 | (simp at c3 ⊢; omega)
  obtain rfl := Option.some.inj H
  go_enter Tryd.func17, Tryd.ntmps17
  go_wp2
  repeat (go_quiet (fail); try go_wp2)
  go_ret
  exact ⟨by first | rfl | (simp; done) | (simp [*]; done) | (simp; exact isEmpty_ne _), by repeat (first | exact Drawn0.refl _ | apply Drawn0.step)⟩

/-! ### def_Print: function 10 -/
def def_Print.j0 : Nat → Bool → ByteArray → List (S40) → List (S42) → Option (ByteArray × Bool)
 | 0, _, _, _, _ => none
 | k + 1, x17, x149000, x149001, x149002 => if x17 = true then (some ((⟨#[]⟩ : ByteArray), false)) else ((def_write.f x149000 x149001 x149002).bind fun t149 => ((def_Parse.f k t149).bind fun bt150 => (if bt150.2.2.2.2 = 0 then (if bt150.1.toList = x149000.toList then ((api_Node.f k bt150.2.1 x149001).bind fun t160 => (if t160 = true then ((api_Flow.f k bt150.2.2.1 x149002).bind fun t161 => (if t161 = true then (some (t149, true)) else (some ((⟨#[]⟩ : ByteArray), false)))) else (some ((⟨#[]⟩ : ByteArray), false)))) else (some ((⟨#[]⟩ : ByteArray), false))) else (some ((⟨#[]⟩ : ByteArray), false)))))
def def_Print.f (k : Nat) (a0_0 : ByteArray) (l0_1 : List (S40)) (l0_2 : List (S42)) : Option (ByteArray × Bool) := if (l0_1.length : Int) > 60 then (def_Print.j0 k true a0_0 l0_1 l0_2) else (def_Print.j0 k (decide ((l0_2.length : Int) > 90)) a0_0 l0_1 l0_2)
theorem def_Print.mono_l : ∀ k, (∀ y0 y1 y2 y3, LeO (def_Print.j0 k y0 y1 y2 y3) (def_Print.j0 (k + 1) y0 y1 y2 y3))
 | 0 => fun _ _ _ _ r h => by simp [def_Print.j0] at h
 | k + 1 => by
  have ih0 := def_Print.mono_l k
  ·
   intro y0 y1 y2 y3
   unfold def_Print.j0
   repeat' first
   | (with_reducible exact ih0 _ _ _ _)
   | (with_reducible exact api_Flow.mono _ _ _)
   | (with_reducible exact api_Node.mono _ _ _)
   | (with_reducible exact def_Parse.mono _ _)
   | (with_reducible exact LeO.refl _)
   | (with_reducible exact LeO.none _)
   | (with_reducible refine LeO.ite ?_ ?_)
   | (with_reducible refine LeO.bind ?_ (fun _ => ?_))
   | exact ih0 _ _ _ _
   | exact api_Flow.mono _ _ _
   | exact api_Node.mono _ _ _
   | exact def_Parse.mono _ _
   | exact LeO.none _
   | refine LeO.ite ?_ ?_
   | refine LeO.bind ?_ (fun _ => ?_)
theorem def_Print.mono : ∀ a0 a1 a2 k, LeO (def_Print.f k a0 a1 a2) (def_Print.f (k + 1) a0 a1 a2) := by
 intro a0 a1 a2 k
 have ih0 := def_Print.mono_l k
 unfold def_Print.f
 repeat' first
   | (with_reducible exact ih0 _ _ _ _)
   | (with_reducible exact api_Flow.mono _ _ _)
   | (with_reducible exact api_Node.mono _ _ _)
   | (with_reducible exact def_Parse.mono _ _)
   | (with_reducible exact LeO.refl _)
   | (with_reducible exact LeO.none _)
   | (with_reducible refine LeO.ite ?_ ?_)
   | (with_reducible refine LeO.bind ?_ (fun _ => ?_))
   | exact ih0 _ _ _ _
   | exact api_Flow.mono _ _ _
   | exact api_Node.mono _ _ _
   | exact def_Parse.mono _ _
   | exact LeO.none _
   | refine LeO.ite ?_ ?_
   | refine LeO.bind ?_ (fun _ => ?_)
set_option maxHeartbeats 8000000 in
set_option maxRecDepth 100000 in
theorem def_Print.calls (k : Nat) (a0_0 : ByteArray) (A0_1 : Option Addr) (c0_1 : Nat) (l0_1 : List (S40)) (A0_2 : Option Addr) (c0_2 : Nat) (l0_2 : List (S42)) (r1 : ByteArray) (r2 : Bool) (w : World) (hTab : Tab w) (hr0_1 : Kd.C k40 w A0_1 l0_1.length l0_1) (hc0_1 : l0_1.length ≤ c0_1) (hr0_2 : Kd.C k42 w A0_2 l0_2.length l0_2) (hc0_2 : l0_2.length ≤ c0_2) (h : def_Print.f k a0_0 l0_1 l0_2 = some (r1, r2)) :
  Calls Tryd.prog 10 #[.agg #[.string a0_0, .slice A0_1 l0_1.length c0_1, .slice A0_2 l0_2.length c0_2]] w fun e w' => e = .returned (.tuple #[.string r1, .bool r2]) ∧ Below w.heap.size w w' := by
 have hu25 := Tryd.underlying25
 have HR0_1 := mk0 hr0_1
 have HC0_1 := mk0 hc0_1
 clear hr0_1 hc0_1
 have HR0_2 := mk0 hr0_2
 have HC0_2 := mk0 hc0_2
 clear hr0_2 hc0_2
 have HB := mk0 (Below.refl w.heap.size w)
 have H : (if (l0_1.length : Int) > 60 then (def_Print.j0 k true a0_0 l0_1 l0_2) else (def_Print.j0 k (decide ((l0_2.length : Int) > 90)) a0_0 l0_1 l0_2)) = some (r1, r2) := h
 clear h
 have HC2 := mk0 H
 clear H
 go_enter Tryd.func10, Tryd.ntmps10
 go_upto_region 1 with (first | ((with_reducible refine gate_dst (N := 1) rfl ?_); (try (refine gate_guard (by rfl) ?_; dsimp only)); refine box_event ?hg (N := 1) ?hd (cs := #[.string a0_0, .slice A0_1 l0_1.length c0_1, .slice A0_2 l0_2.length c0_2]) (t := 25) ?hr ?_; (case hd => rfl); (case hg => rfl); (case hr => first | (go_simp; done) | (go_simp; rfl)); intro gb148 hg w3 hbox hb; have n0_ := mk0 (bst HB.out hb); have n1_ := mk0 (hbox); have n2_ := mk0 (gle hg HB.out); have n3_ := mk0 (gle hg HB.out); clear HB; have HB := n0_; have BK148 := n1_; have GW148 := n2_; have GE148 := n3_; clear n0_ n1_ n2_ n3_; clear hb hbox hg))
 (try simp only [Act.put, List.setIfInBounds_toArray, List.set_cons_zero, List.set_cons_succ])
 go_cut [17] (fun v17 wc => ∃ (kq : Nat) (x17_1 : Bool), v17 = .bool x17_1 ∧ Aside0 (def_Print.j0 kq x17_1 a0_0 l0_1 l0_2 = some (r1, r2)) ∧ Aside0 (kq ≤ k) ∧ Aside0 (wc.heap[gb148]? = some (.cells #[.string a0_0, (.slice A0_1 l0_1.length c0_1), (.slice A0_2 l0_2.length c0_2)] 25 (0, 0))) ∧ Aside0 (Below w.heap.size w wc))
 case first =>
  have H := HC2.out
  clear HC2
  by_cases c4 : (l0_1.length : Int) > 60
  ·
   rw [if_pos c4] at H
   have c4b0 : decide (60 < (l0_1.length : Int)) = true := decide_eq_true c4
   have c4b1 : decide (60 < l0_1.length) = true := decide_eq_true (by omega)
   clear c4
   (first | rw [c4b0] | (simp only [i64_w, i32_w]; rw [c4b0]) | skip)
   have H' := mk0 H
   clear H
   obtain ⟨hcz5_0, hcz5_1, hcz5_2, hfz5_0, hfz5_1, hfz5_2⟩ := blk3 BK148.out
   go_wp2
   go_meet
   case rel => exact ⟨_, (true), (by first | rfl | (simp; done) | (simp [*]; done)), H', ⟨by first | omega | exact Nat.le_refl _⟩, ⟨by exact obk BK148.out⟩, ⟨by exact bok HB.out⟩⟩
  ·
   rw [if_neg c4] at H
   have c4b0 : decide (60 < (l0_1.length : Int)) = false := decide_eq_false c4
   have c4b1 : decide (60 < l0_1.length) = false := decide_eq_false (by omega)
   clear c4
   (first | rw [c4b0] | (simp only [i64_w, i32_w]; rw [c4b0]) | skip)
   have H' := mk0 H
   clear H
   obtain ⟨hcz6_0, hcz6_1, hcz6_2, hfz6_0, hfz6_1, hfz6_2⟩ := blk3 BK148.out
   go_wp2
   go_meet
   case rel => exact ⟨_, (decide ((l0_2.length : Int) > 90)), (by first | rfl | (simp; done) | (simp [*]; done)), H', ⟨by first | omega | exact Nat.le_refl _⟩, ⟨by exact obk BK148.out⟩, ⟨by exact bok HB.out⟩⟩
 case rest =>
  clear HC2
  try clear c1
  try clear p2
  try clear c4
  try clear c4b0
  try clear c4b1
  obtain ⟨kq, x17_1, rfl, HA, HJ1, BK148, HB⟩ := hcut
  cases kq with
  | zero => exact absurd HA.out (by simp [def_Print.j0])
  | succ kj1 =>
   have H := HA.out
   clear HA
   simp only [def_Print.j0] at H
   by_cases c7 : x17_1 = true
   ·
    subst c7
    have H1 : (some ((⟨#[]⟩ : ByteArray), false)) = some (r1, r2) := by rw [if_pos rfl] at H; exact H
    clear H
    have H := H1
    clear H1
    simp only [Option.some.injEq, Prod.mk.injEq] at H
    obtain ⟨rfl, rfl⟩ := H
    go_wp2
    go_ret2
    exact ⟨by first | rfl | (simp [*, errW_none, errW_some] <;> rfl), by exact bok HB.out⟩
   ·
    replace c7 := Bool.eq_false_iff.mpr c7
    subst c7
    have H1 : ((def_write.f a0_0 l0_1 l0_2).bind fun t149 => ((def_Parse.f kj1 t149).bind fun bt150 => (if bt150.2.2.2.2 = 0 then (if bt150.1.toList = a0_0.toList then ((api_Node.f kj1 bt150.2.1 l0_1).bind fun t160 => (if t160 = true then ((api_Flow.f kj1 bt150.2.2.1 l0_2).bind fun t161 => (if t161 = true then (some (t149, true)) else (some ((⟨#[]⟩ : ByteArray), false)))) else (some ((⟨#[]⟩ : ByteArray), false)))) else (some ((⟨#[]⟩ : ByteArray), false))) else (some ((⟨#[]⟩ : ByteArray), false))))) = some (r1, r2) := by rw [if_neg (show ¬ (false = true) by decide)] at H; exact H
    clear H
    have H := H1
    clear H1
    replace H := Option.bind_eq_some_iff.mp H
    obtain ⟨t149, A80, H⟩ := H
    replace H : ((def_Parse.f kj1 t149).bind fun bt150 => (if bt150.2.2.2.2 = 0 then (if bt150.1.toList = a0_0.toList then ((api_Node.f kj1 bt150.2.1 l0_1).bind fun t160 => (if t160 = true then ((api_Flow.f kj1 bt150.2.2.1 l0_2).bind fun t161 => (if t161 = true then (some (t149, true)) else (some ((⟨#[]⟩ : ByteArray), false)))) else (some ((⟨#[]⟩ : ByteArray), false)))) else (some ((⟨#[]⟩ : ByteArray), false))) else (some ((⟨#[]⟩ : ByteArray), false)))) = some (r1, r2) := H
    have A8 := mk0 A80
    clear A80
    replace H := Option.bind_eq_some_iff.mp H
    obtain ⟨⟨t150, t151, t154, t157, t158⟩, A90, H⟩ := H
    replace H : (if t158 = 0 then (if t150.toList = a0_0.toList then ((api_Node.f kj1 t151 l0_1).bind fun t160 => (if t160 = true then ((api_Flow.f kj1 t154 l0_2).bind fun t161 => (if t161 = true then (some (t149, true)) else (some ((⟨#[]⟩ : ByteArray), false)))) else (some ((⟨#[]⟩ : ByteArray), false)))) else (some ((⟨#[]⟩ : ByteArray), false))) else (some ((⟨#[]⟩ : ByteArray), false))) = some (r1, r2) := H
    have A9 := mk0 A90
    clear A90
    by_cases c10 : t158 = 0
    ·
     rw [if_pos c10] at H
     have c10b0 : (t158 == 0) = true := beq_iff_eq.mpr c10
     have c10b1 : (t158 != 0) = false := bne_eq_false_iff_eq.mpr c10
     clear c10
     by_cases c11 : t150.toList = a0_0.toList
     ·
      rw [if_pos c11] at H
      have c11b0 : (t150.toList == a0_0.toList) = true := beq_iff_eq.mpr c11
      have c11b1 : (t150.toList != a0_0.toList) = false := bne_eq_false_iff_eq.mpr c11
      clear c11
      replace H := Option.bind_eq_some_iff.mp H
      obtain ⟨t160, A120, H⟩ := H
      replace H : (if t160 = true then ((api_Flow.f kj1 t154 l0_2).bind fun t161 => (if t161 = true then (some (t149, true)) else (some ((⟨#[]⟩ : ByteArray), false)))) else (some ((⟨#[]⟩ : ByteArray), false))) = some (r1, r2) := H
      have A12 := mk0 A120
      clear A120
      by_cases c13 : t160 = true
      ·
       subst c13
       have H1 : ((api_Flow.f kj1 t154 l0_2).bind fun t161 => (if t161 = true then (some (t149, true)) else (some ((⟨#[]⟩ : ByteArray), false)))) = some (r1, r2) := by rw [if_pos rfl] at H; exact H
       clear H
       have H := H1
       clear H1
       replace H := Option.bind_eq_some_iff.mp H
       obtain ⟨t161, A140, H⟩ := H
       replace H : (if t161 = true then (some (t149, true)) else (some ((⟨#[]⟩ : ByteArray), false))) = some (r1, r2) := H
       have A14 := mk0 A140
       clear A140
       by_cases c15 : t161 = true
       ·
        subst c15
        have H1 : (some (t149, true)) = some (r1, r2) := by rw [if_pos rfl] at H; exact H
        clear H
        have H := H1
        clear H1
        simp only [Option.some.injEq, Prod.mk.injEq] at H
        obtain ⟨rfl, rfl⟩ := H
        obtain ⟨hcz16_0, hcz16_1, hcz16_2, hfz16_0, hfz16_1, hfz16_2⟩ := blk3 BK148.out
        go_wp2_with (first | ((with_reducible refine gate_callee (f := 15) rfl ?_); refine goesL_ (some 19) rfl rfl Tryd.func15 (by kernel_rfl) rfl #[.agg #[.string a0_0, .slice A0_1 l0_1.length c0_1, .slice A0_2 l0_2.length c0_2]] rfl (by (try simp only [List.map_toArray, List.map_cons, List.map_nil]); first | done | rfl | (simp only [List.length_drop, List.length_take]; rfl)) ?_; (with_reducible refine (def_write.calls a0_0 _ _ l0_1 _ _ l0_2 t149 _ (Tab.below hTab (by exact bok HB.out))  ?side1 ?side2 ?side3 ?side4 A8.out).mono ?_); (case side1 => repeat (first | exact (Kd.C_below HR0_1.out HB.out) | (with_reducible refine Kd.C_alloc ?_ _) | (with_reducible refine Kd.C_drewN ?_ _) | (with_reducible refine Kd.C_drew ?_))); (case side2 => exact HC0_1.out); (case side3 => repeat (first | exact (Kd.C_below HR0_2.out HB.out) | (with_reducible refine Kd.C_alloc ?_ _) | (with_reducible refine Kd.C_drewN ?_ _) | (with_reducible refine Kd.C_drew ?_))); (case side4 => exact HC0_2.out); rintro e w17 ⟨rfl, hb⟩; refine ⟨_, rfl, ?_⟩; have n0_ := mk0 (blk_below (obk BK148.out) hb); have n1_ := mk0 (bst HB.out hb); clear BK148; clear HB; have BK148 := n0_; have HB := n1_; clear n0_ n1_; (try clear hb)) | ((with_reducible refine gate_callee (f := 12) rfl ?_); refine goesL_ (some 22) rfl rfl Tryd.func12 (by kernel_rfl) rfl #[.string t149] rfl (by (try simp only [List.map_toArray, List.map_cons, List.map_nil]); first | done | rfl | (simp only [List.length_drop, List.length_take]; rfl)) ?_; (with_reducible refine (def_Parse.calls kj1 t149 t150 t151 t154 t157 t158 _ A9.out).mono ?_); rintro e w18 ⟨v152, v155, rfl, ho0, ho1, hb⟩; refine ⟨_, rfl, ?_⟩; have n0_ := mk0 (Kd.R_lower ho0 (below_size (by exact bok HB.out))); have n1_ := mk0 (Kd.R_lower ho1 (below_size (by exact bok HB.out))); have n2_ := mk0 (blk_below (obk BK148.out) hb); have n3_ := mk0 (bst HB.out hb); clear BK148; clear HB; have HO153 := n0_; have HO156 := n1_; have BK148 := n2_; have HB := n3_; clear n0_ n1_ n2_ n3_; (try clear hb); (try clear ho0); (try clear ho1)) | ((with_reducible refine gate_dst (N := 5) rfl ?_); (try (refine gate_guard (by rfl) ?_; dsimp only)); refine box_event ?hg (N := 5) ?hd (cs := #[.string (⟨#[]⟩ : ByteArray), .slice none 0 0, .slice none 0 0]) (t := 25) ?hr ?_; (case hd => rfl); (case hg => rfl); (case hr => first | (go_simp; done) | (go_simp; rfl)); intro gb159 hg w19 hbox hb; have n0_ := mk0 (Kd.R_below (by exact rok HO153.out) hb); have n1_ := mk0 (Kd.R_below (by exact rok HO156.out) hb); have n2_ := mk0 (blk_below (obk BK148.out) hb); have n3_ := mk0 (bst HB.out hb); have n4_ := mk0 (hbox); have n5_ := mk0 (gle hg HB.out); have n6_ := mk0 (gle hg HB.out); have n7_ := mk0 (nlt hg BK148.out); have n8_ := mk0 (ngt hg BK148.out); clear HO153; clear HO156; clear BK148; clear HB; have HO153 := n0_; have HO156 := n1_; have BK148 := n2_; have HB := n3_; have BK159 := n4_; have GW159 := n5_; have GE159 := n6_; have NB148_159 := n7_; have NB159_148 := n8_; clear n0_ n1_ n2_ n3_ n4_ n5_ n6_ n7_ n8_; clear hb hbox hg; have hnb20 := NB159_148.out; have hnc20 := NB148_159.out; obtain ⟨hcz21_0, hcz21_1, hcz21_2, hfz21_0, hfz21_1, hfz21_2⟩ := blk3 BK159.out; obtain ⟨Ao22, co22, eo22⟩ := Kd.R_slice HO153.out; subst eo22; obtain ⟨Ao23, co23, eo23⟩ := Kd.R_slice HO156.out; subst eo23; obtain ⟨hcz24_0, hcz24_1, hcz24_2, hfz24_0, hfz24_1, hfz24_2⟩ := blk3 BK148.out) | (go_at_call 16; (with_reducible refine (api_Node.calls kj1 _ _ t151 _ _ l0_1 true _ ?side1 ?side2 ?side3 ?side4 A12.out).mono ?_); (case side1 => refine (Kd.R_reads' (e := 40) (base := w.heap.size) (ok := fun k_ => True) (n := t151.length) (c := co22) ?_).2.2; exact (by exact rok (Kd.R_mono (rfar 2 (rfar 1 (rfar 0 (Kd.R_types HO153.out BK159.out (by decide)) (.string t150)) (.slice Ao22 t151.length co22)) (.slice Ao23 t154.length co23)) (fun _ h_ => h_.1)))); (case side2 => exact (Kd.R_reads' HO153.out).2.1); (case side3 => exact Kd.C_below HR0_1.out (by exact bok HB.out)); (case side4 => exact HC0_1.out); rintro e w' ⟨rfl, ⟨nd, rfl⟩⟩) | (go_at_call 17; (with_reducible refine (api_Flow.calls kj1 _ _ t154 _ _ l0_2 true _ ?side1 ?side2 ?side3 ?side4 A14.out).mono ?_); (case side1 => refine (Kd.R_reads' (e := 42) (base := w.heap.size) (ok := fun k_ => True) (n := t154.length) (c := co23) ?_).2.2; exact (by exact rok (Kd.R_mono (rfar 2 (rfar 1 (rfar 0 (Kd.R_types HO156.out BK159.out (by decide)) (.string t150)) (.slice Ao22 t151.length co22)) (.slice Ao23 t154.length co23)) (fun _ h_ => h_.1)))); (case side2 => exact (Kd.R_reads' HO156.out).2.1); (case side3 => exact Kd.C_below HR0_2.out (by exact bok HB.out)); (case side4 => exact HC0_2.out); rintro e w' ⟨rfl, ⟨nd, rfl⟩⟩))
        go_ret2
        exact ⟨by first | rfl | (simp [*, errW_none, errW_some] <;> rfl), by exact bok HB.out⟩
       ·
        replace c15 := Bool.eq_false_iff.mpr c15
        subst c15
        have H1 : (some ((⟨#[]⟩ : ByteArray), false)) = some (r1, r2) := by rw [if_neg (show ¬ (false = true) by decide)] at H; exact H
        clear H
        have H := H1
        clear H1
        simp only [Option.some.injEq, Prod.mk.injEq] at H
        obtain ⟨rfl, rfl⟩ := H
        obtain ⟨hcz25_0, hcz25_1, hcz25_2, hfz25_0, hfz25_1, hfz25_2⟩ := blk3 BK148.out
        go_wp2_with (first | ((with_reducible refine gate_callee (f := 15) rfl ?_); refine goesL_ (some 19) rfl rfl Tryd.func15 (by kernel_rfl) rfl #[.agg #[.string a0_0, .slice A0_1 l0_1.length c0_1, .slice A0_2 l0_2.length c0_2]] rfl (by (try simp only [List.map_toArray, List.map_cons, List.map_nil]); first | done | rfl | (simp only [List.length_drop, List.length_take]; rfl)) ?_; (with_reducible refine (def_write.calls a0_0 _ _ l0_1 _ _ l0_2 t149 _ (Tab.below hTab (by exact bok HB.out))  ?side1 ?side2 ?side3 ?side4 A8.out).mono ?_); (case side1 => repeat (first | exact (Kd.C_below HR0_1.out HB.out) | (with_reducible refine Kd.C_alloc ?_ _) | (with_reducible refine Kd.C_drewN ?_ _) | (with_reducible refine Kd.C_drew ?_))); (case side2 => exact HC0_1.out); (case side3 => repeat (first | exact (Kd.C_below HR0_2.out HB.out) | (with_reducible refine Kd.C_alloc ?_ _) | (with_reducible refine Kd.C_drewN ?_ _) | (with_reducible refine Kd.C_drew ?_))); (case side4 => exact HC0_2.out); rintro e w26 ⟨rfl, hb⟩; refine ⟨_, rfl, ?_⟩; have n0_ := mk0 (blk_below (obk BK148.out) hb); have n1_ := mk0 (bst HB.out hb); clear BK148; clear HB; have BK148 := n0_; have HB := n1_; clear n0_ n1_; (try clear hb)) | ((with_reducible refine gate_callee (f := 12) rfl ?_); refine goesL_ (some 22) rfl rfl Tryd.func12 (by kernel_rfl) rfl #[.string t149] rfl (by (try simp only [List.map_toArray, List.map_cons, List.map_nil]); first | done | rfl | (simp only [List.length_drop, List.length_take]; rfl)) ?_; (with_reducible refine (def_Parse.calls kj1 t149 t150 t151 t154 t157 t158 _ A9.out).mono ?_); rintro e w27 ⟨v152, v155, rfl, ho0, ho1, hb⟩; refine ⟨_, rfl, ?_⟩; have n0_ := mk0 (Kd.R_lower ho0 (below_size (by exact bok HB.out))); have n1_ := mk0 (Kd.R_lower ho1 (below_size (by exact bok HB.out))); have n2_ := mk0 (blk_below (obk BK148.out) hb); have n3_ := mk0 (bst HB.out hb); clear BK148; clear HB; have HO153 := n0_; have HO156 := n1_; have BK148 := n2_; have HB := n3_; clear n0_ n1_ n2_ n3_; (try clear hb); (try clear ho0); (try clear ho1)) | ((with_reducible refine gate_dst (N := 5) rfl ?_); (try (refine gate_guard (by rfl) ?_; dsimp only)); refine box_event ?hg (N := 5) ?hd (cs := #[.string (⟨#[]⟩ : ByteArray), .slice none 0 0, .slice none 0 0]) (t := 25) ?hr ?_; (case hd => rfl); (case hg => rfl); (case hr => first | (go_simp; done) | (go_simp; rfl)); intro gb159 hg w28 hbox hb; have n0_ := mk0 (Kd.R_below (by exact rok HO153.out) hb); have n1_ := mk0 (Kd.R_below (by exact rok HO156.out) hb); have n2_ := mk0 (blk_below (obk BK148.out) hb); have n3_ := mk0 (bst HB.out hb); have n4_ := mk0 (hbox); have n5_ := mk0 (gle hg HB.out); have n6_ := mk0 (gle hg HB.out); have n7_ := mk0 (nlt hg BK148.out); have n8_ := mk0 (ngt hg BK148.out); clear HO153; clear HO156; clear BK148; clear HB; have HO153 := n0_; have HO156 := n1_; have BK148 := n2_; have HB := n3_; have BK159 := n4_; have GW159 := n5_; have GE159 := n6_; have NB148_159 := n7_; have NB159_148 := n8_; clear n0_ n1_ n2_ n3_ n4_ n5_ n6_ n7_ n8_; clear hb hbox hg; have hnb29 := NB159_148.out; have hnc29 := NB148_159.out; obtain ⟨hcz30_0, hcz30_1, hcz30_2, hfz30_0, hfz30_1, hfz30_2⟩ := blk3 BK159.out; obtain ⟨Ao31, co31, eo31⟩ := Kd.R_slice HO153.out; subst eo31; obtain ⟨Ao32, co32, eo32⟩ := Kd.R_slice HO156.out; subst eo32; obtain ⟨hcz33_0, hcz33_1, hcz33_2, hfz33_0, hfz33_1, hfz33_2⟩ := blk3 BK148.out) | (go_at_call 16; (with_reducible refine (api_Node.calls kj1 _ _ t151 _ _ l0_1 true _ ?side1 ?side2 ?side3 ?side4 A12.out).mono ?_); (case side1 => refine (Kd.R_reads' (e := 40) (base := w.heap.size) (ok := fun k_ => True) (n := t151.length) (c := co31) ?_).2.2; exact (by exact rok (Kd.R_mono (rfar 2 (rfar 1 (rfar 0 (Kd.R_types HO153.out BK159.out (by decide)) (.string t150)) (.slice Ao31 t151.length co31)) (.slice Ao32 t154.length co32)) (fun _ h_ => h_.1)))); (case side2 => exact (Kd.R_reads' HO153.out).2.1); (case side3 => exact Kd.C_below HR0_1.out (by exact bok HB.out)); (case side4 => exact HC0_1.out); rintro e w' ⟨rfl, ⟨nd, rfl⟩⟩) | (go_at_call 17; (with_reducible refine (api_Flow.calls kj1 _ _ t154 _ _ l0_2 false _ ?side1 ?side2 ?side3 ?side4 A14.out).mono ?_); (case side1 => refine (Kd.R_reads' (e := 42) (base := w.heap.size) (ok := fun k_ => True) (n := t154.length) (c := co32) ?_).2.2; exact (by exact rok (Kd.R_mono (rfar 2 (rfar 1 (rfar 0 (Kd.R_types HO156.out BK159.out (by decide)) (.string t150)) (.slice Ao31 t151.length co31)) (.slice Ao32 t154.length co32)) (fun _ h_ => h_.1)))); (case side2 => exact (Kd.R_reads' HO156.out).2.1); (case side3 => exact Kd.C_below HR0_2.out (by exact bok HB.out)); (case side4 => exact HC0_2.out); rintro e w' ⟨rfl, ⟨nd, rfl⟩⟩))
        go_ret2
        exact ⟨by first | rfl | (simp [*, errW_none, errW_some] <;> rfl), by exact bok HB.out⟩
      ·
       replace c13 := Bool.eq_false_iff.mpr c13
       subst c13
       have H1 : (some ((⟨#[]⟩ : ByteArray), false)) = some (r1, r2) := by rw [if_neg (show ¬ (false = true) by decide)] at H; exact H
       clear H
       have H := H1
       clear H1
       simp only [Option.some.injEq, Prod.mk.injEq] at H
       obtain ⟨rfl, rfl⟩ := H
       obtain ⟨hcz34_0, hcz34_1, hcz34_2, hfz34_0, hfz34_1, hfz34_2⟩ := blk3 BK148.out
       go_wp2_with (first | ((with_reducible refine gate_callee (f := 15) rfl ?_); refine goesL_ (some 19) rfl rfl Tryd.func15 (by kernel_rfl) rfl #[.agg #[.string a0_0, .slice A0_1 l0_1.length c0_1, .slice A0_2 l0_2.length c0_2]] rfl (by (try simp only [List.map_toArray, List.map_cons, List.map_nil]); first | done | rfl | (simp only [List.length_drop, List.length_take]; rfl)) ?_; (with_reducible refine (def_write.calls a0_0 _ _ l0_1 _ _ l0_2 t149 _ (Tab.below hTab (by exact bok HB.out))  ?side1 ?side2 ?side3 ?side4 A8.out).mono ?_); (case side1 => repeat (first | exact (Kd.C_below HR0_1.out HB.out) | (with_reducible refine Kd.C_alloc ?_ _) | (with_reducible refine Kd.C_drewN ?_ _) | (with_reducible refine Kd.C_drew ?_))); (case side2 => exact HC0_1.out); (case side3 => repeat (first | exact (Kd.C_below HR0_2.out HB.out) | (with_reducible refine Kd.C_alloc ?_ _) | (with_reducible refine Kd.C_drewN ?_ _) | (with_reducible refine Kd.C_drew ?_))); (case side4 => exact HC0_2.out); rintro e w35 ⟨rfl, hb⟩; refine ⟨_, rfl, ?_⟩; have n0_ := mk0 (blk_below (obk BK148.out) hb); have n1_ := mk0 (bst HB.out hb); clear BK148; clear HB; have BK148 := n0_; have HB := n1_; clear n0_ n1_; (try clear hb)) | ((with_reducible refine gate_callee (f := 12) rfl ?_); refine goesL_ (some 22) rfl rfl Tryd.func12 (by kernel_rfl) rfl #[.string t149] rfl (by (try simp only [List.map_toArray, List.map_cons, List.map_nil]); first | done | rfl | (simp only [List.length_drop, List.length_take]; rfl)) ?_; (with_reducible refine (def_Parse.calls kj1 t149 t150 t151 t154 t157 t158 _ A9.out).mono ?_); rintro e w36 ⟨v152, v155, rfl, ho0, ho1, hb⟩; refine ⟨_, rfl, ?_⟩; have n0_ := mk0 (Kd.R_lower ho0 (below_size (by exact bok HB.out))); have n1_ := mk0 (Kd.R_lower ho1 (below_size (by exact bok HB.out))); have n2_ := mk0 (blk_below (obk BK148.out) hb); have n3_ := mk0 (bst HB.out hb); clear BK148; clear HB; have HO153 := n0_; have HO156 := n1_; have BK148 := n2_; have HB := n3_; clear n0_ n1_ n2_ n3_; (try clear hb); (try clear ho0); (try clear ho1)) | ((with_reducible refine gate_dst (N := 5) rfl ?_); (try (refine gate_guard (by rfl) ?_; dsimp only)); refine box_event ?hg (N := 5) ?hd (cs := #[.string (⟨#[]⟩ : ByteArray), .slice none 0 0, .slice none 0 0]) (t := 25) ?hr ?_; (case hd => rfl); (case hg => rfl); (case hr => first | (go_simp; done) | (go_simp; rfl)); intro gb159 hg w37 hbox hb; have n0_ := mk0 (Kd.R_below (by exact rok HO153.out) hb); have n1_ := mk0 (Kd.R_below (by exact rok HO156.out) hb); have n2_ := mk0 (blk_below (obk BK148.out) hb); have n3_ := mk0 (bst HB.out hb); have n4_ := mk0 (hbox); have n5_ := mk0 (gle hg HB.out); have n6_ := mk0 (gle hg HB.out); have n7_ := mk0 (nlt hg BK148.out); have n8_ := mk0 (ngt hg BK148.out); clear HO153; clear HO156; clear BK148; clear HB; have HO153 := n0_; have HO156 := n1_; have BK148 := n2_; have HB := n3_; have BK159 := n4_; have GW159 := n5_; have GE159 := n6_; have NB148_159 := n7_; have NB159_148 := n8_; clear n0_ n1_ n2_ n3_ n4_ n5_ n6_ n7_ n8_; clear hb hbox hg; have hnb38 := NB159_148.out; have hnc38 := NB148_159.out; obtain ⟨hcz39_0, hcz39_1, hcz39_2, hfz39_0, hfz39_1, hfz39_2⟩ := blk3 BK159.out; obtain ⟨Ao40, co40, eo40⟩ := Kd.R_slice HO153.out; subst eo40; obtain ⟨Ao41, co41, eo41⟩ := Kd.R_slice HO156.out; subst eo41; obtain ⟨hcz42_0, hcz42_1, hcz42_2, hfz42_0, hfz42_1, hfz42_2⟩ := blk3 BK148.out) | (go_at_call 16; (with_reducible refine (api_Node.calls kj1 _ _ t151 _ _ l0_1 false _ ?side1 ?side2 ?side3 ?side4 A12.out).mono ?_); (case side1 => refine (Kd.R_reads' (e := 40) (base := w.heap.size) (ok := fun k_ => True) (n := t151.length) (c := co40) ?_).2.2; exact (by exact rok (Kd.R_mono (rfar 2 (rfar 1 (rfar 0 (Kd.R_types HO153.out BK159.out (by decide)) (.string t150)) (.slice Ao40 t151.length co40)) (.slice Ao41 t154.length co41)) (fun _ h_ => h_.1)))); (case side2 => exact (Kd.R_reads' HO153.out).2.1); (case side3 => exact Kd.C_below HR0_1.out (by exact bok HB.out)); (case side4 => exact HC0_1.out); rintro e w' ⟨rfl, ⟨nd, rfl⟩⟩))
       go_ret2
       exact ⟨by first | rfl | (simp [*, errW_none, errW_some] <;> rfl), by exact bok HB.out⟩
     ·
      rw [if_neg c11] at H
      have c11b0 : (t150.toList == a0_0.toList) = false := beq_eq_false_iff_ne.mpr c11
      have c11b1 : (t150.toList != a0_0.toList) = true := bne_iff_ne.mpr c11
      simp only [Option.some.injEq, Prod.mk.injEq] at H
      obtain ⟨rfl, rfl⟩ := H
      obtain ⟨hcz43_0, hcz43_1, hcz43_2, hfz43_0, hfz43_1, hfz43_2⟩ := blk3 BK148.out
      go_wp2_with (first | ((with_reducible refine gate_callee (f := 15) rfl ?_); refine goesL_ (some 19) rfl rfl Tryd.func15 (by kernel_rfl) rfl #[.agg #[.string a0_0, .slice A0_1 l0_1.length c0_1, .slice A0_2 l0_2.length c0_2]] rfl (by (try simp only [List.map_toArray, List.map_cons, List.map_nil]); first | done | rfl | (simp only [List.length_drop, List.length_take]; rfl)) ?_; (with_reducible refine (def_write.calls a0_0 _ _ l0_1 _ _ l0_2 t149 _ (Tab.below hTab (by exact bok HB.out))  ?side1 ?side2 ?side3 ?side4 A8.out).mono ?_); (case side1 => repeat (first | exact (Kd.C_below HR0_1.out HB.out) | (with_reducible refine Kd.C_alloc ?_ _) | (with_reducible refine Kd.C_drewN ?_ _) | (with_reducible refine Kd.C_drew ?_))); (case side2 => exact HC0_1.out); (case side3 => repeat (first | exact (Kd.C_below HR0_2.out HB.out) | (with_reducible refine Kd.C_alloc ?_ _) | (with_reducible refine Kd.C_drewN ?_ _) | (with_reducible refine Kd.C_drew ?_))); (case side4 => exact HC0_2.out); rintro e w44 ⟨rfl, hb⟩; refine ⟨_, rfl, ?_⟩; have n0_ := mk0 (blk_below (obk BK148.out) hb); have n1_ := mk0 (bst HB.out hb); clear BK148; clear HB; have BK148 := n0_; have HB := n1_; clear n0_ n1_; (try clear hb)) | ((with_reducible refine gate_callee (f := 12) rfl ?_); refine goesL_ (some 22) rfl rfl Tryd.func12 (by kernel_rfl) rfl #[.string t149] rfl (by (try simp only [List.map_toArray, List.map_cons, List.map_nil]); first | done | rfl | (simp only [List.length_drop, List.length_take]; rfl)) ?_; (with_reducible refine (def_Parse.calls kj1 t149 t150 t151 t154 t157 t158 _ A9.out).mono ?_); rintro e w45 ⟨v152, v155, rfl, ho0, ho1, hb⟩; refine ⟨_, rfl, ?_⟩; have n0_ := mk0 (Kd.R_lower ho0 (below_size (by exact bok HB.out))); have n1_ := mk0 (Kd.R_lower ho1 (below_size (by exact bok HB.out))); have n2_ := mk0 (blk_below (obk BK148.out) hb); have n3_ := mk0 (bst HB.out hb); clear BK148; clear HB; have HO153 := n0_; have HO156 := n1_; have BK148 := n2_; have HB := n3_; clear n0_ n1_ n2_ n3_; (try clear hb); (try clear ho0); (try clear ho1)) | ((with_reducible refine gate_dst (N := 5) rfl ?_); (try (refine gate_guard (by rfl) ?_; dsimp only)); refine box_event ?hg (N := 5) ?hd (cs := #[.string (⟨#[]⟩ : ByteArray), .slice none 0 0, .slice none 0 0]) (t := 25) ?hr ?_; (case hd => rfl); (case hg => rfl); (case hr => first | (go_simp; done) | (go_simp; rfl)); intro gb159 hg w46 hbox hb; have n0_ := mk0 (Kd.R_below (by exact rok HO153.out) hb); have n1_ := mk0 (Kd.R_below (by exact rok HO156.out) hb); have n2_ := mk0 (blk_below (obk BK148.out) hb); have n3_ := mk0 (bst HB.out hb); have n4_ := mk0 (hbox); have n5_ := mk0 (gle hg HB.out); have n6_ := mk0 (gle hg HB.out); have n7_ := mk0 (nlt hg BK148.out); have n8_ := mk0 (ngt hg BK148.out); clear HO153; clear HO156; clear BK148; clear HB; have HO153 := n0_; have HO156 := n1_; have BK148 := n2_; have HB := n3_; have BK159 := n4_; have GW159 := n5_; have GE159 := n6_; have NB148_159 := n7_; have NB159_148 := n8_; clear n0_ n1_ n2_ n3_ n4_ n5_ n6_ n7_ n8_; clear hb hbox hg; have hnb47 := NB159_148.out; have hnc47 := NB148_159.out; obtain ⟨hcz48_0, hcz48_1, hcz48_2, hfz48_0, hfz48_1, hfz48_2⟩ := blk3 BK159.out; obtain ⟨Ao49, co49, eo49⟩ := Kd.R_slice HO153.out; subst eo49; obtain ⟨Ao50, co50, eo50⟩ := Kd.R_slice HO156.out; subst eo50; obtain ⟨hcz51_0, hcz51_1, hcz51_2, hfz51_0, hfz51_1, hfz51_2⟩ := blk3 BK148.out))
      go_ret2
      exact ⟨by first | rfl | (simp [*, errW_none, errW_some] <;> rfl), by exact bok HB.out⟩
    ·
     rw [if_neg c10] at H
     have c10b0 : (t158 == 0) = false := beq_eq_false_iff_ne.mpr c10
     have c10b1 : (t158 != 0) = true := bne_iff_ne.mpr c10
     simp only [Option.some.injEq, Prod.mk.injEq] at H
     obtain ⟨rfl, rfl⟩ := H
     obtain ⟨hcz52_0, hcz52_1, hcz52_2, hfz52_0, hfz52_1, hfz52_2⟩ := blk3 BK148.out
     go_wp2_with (first | ((with_reducible refine gate_callee (f := 15) rfl ?_); refine goesL_ (some 19) rfl rfl Tryd.func15 (by kernel_rfl) rfl #[.agg #[.string a0_0, .slice A0_1 l0_1.length c0_1, .slice A0_2 l0_2.length c0_2]] rfl (by (try simp only [List.map_toArray, List.map_cons, List.map_nil]); first | done | rfl | (simp only [List.length_drop, List.length_take]; rfl)) ?_; (with_reducible refine (def_write.calls a0_0 _ _ l0_1 _ _ l0_2 t149 _ (Tab.below hTab (by exact bok HB.out))  ?side1 ?side2 ?side3 ?side4 A8.out).mono ?_); (case side1 => repeat (first | exact (Kd.C_below HR0_1.out HB.out) | (with_reducible refine Kd.C_alloc ?_ _) | (with_reducible refine Kd.C_drewN ?_ _) | (with_reducible refine Kd.C_drew ?_))); (case side2 => exact HC0_1.out); (case side3 => repeat (first | exact (Kd.C_below HR0_2.out HB.out) | (with_reducible refine Kd.C_alloc ?_ _) | (with_reducible refine Kd.C_drewN ?_ _) | (with_reducible refine Kd.C_drew ?_))); (case side4 => exact HC0_2.out); rintro e w53 ⟨rfl, hb⟩; refine ⟨_, rfl, ?_⟩; have n0_ := mk0 (blk_below (obk BK148.out) hb); have n1_ := mk0 (bst HB.out hb); clear BK148; clear HB; have BK148 := n0_; have HB := n1_; clear n0_ n1_; (try clear hb)) | ((with_reducible refine gate_callee (f := 12) rfl ?_); refine goesL_ (some 22) rfl rfl Tryd.func12 (by kernel_rfl) rfl #[.string t149] rfl (by (try simp only [List.map_toArray, List.map_cons, List.map_nil]); first | done | rfl | (simp only [List.length_drop, List.length_take]; rfl)) ?_; (with_reducible refine (def_Parse.calls kj1 t149 t150 t151 t154 t157 t158 _ A9.out).mono ?_); rintro e w54 ⟨v152, v155, rfl, ho0, ho1, hb⟩; refine ⟨_, rfl, ?_⟩; have n0_ := mk0 (Kd.R_lower ho0 (below_size (by exact bok HB.out))); have n1_ := mk0 (Kd.R_lower ho1 (below_size (by exact bok HB.out))); have n2_ := mk0 (blk_below (obk BK148.out) hb); have n3_ := mk0 (bst HB.out hb); clear BK148; clear HB; have HO153 := n0_; have HO156 := n1_; have BK148 := n2_; have HB := n3_; clear n0_ n1_ n2_ n3_; (try clear hb); (try clear ho0); (try clear ho1)) | ((with_reducible refine gate_dst (N := 5) rfl ?_); (try (refine gate_guard (by rfl) ?_; dsimp only)); refine box_event ?hg (N := 5) ?hd (cs := #[.string (⟨#[]⟩ : ByteArray), .slice none 0 0, .slice none 0 0]) (t := 25) ?hr ?_; (case hd => rfl); (case hg => rfl); (case hr => first | (go_simp; done) | (go_simp; rfl)); intro gb159 hg w55 hbox hb; have n0_ := mk0 (Kd.R_below (by exact rok HO153.out) hb); have n1_ := mk0 (Kd.R_below (by exact rok HO156.out) hb); have n2_ := mk0 (blk_below (obk BK148.out) hb); have n3_ := mk0 (bst HB.out hb); have n4_ := mk0 (hbox); have n5_ := mk0 (gle hg HB.out); have n6_ := mk0 (gle hg HB.out); have n7_ := mk0 (nlt hg BK148.out); have n8_ := mk0 (ngt hg BK148.out); clear HO153; clear HO156; clear BK148; clear HB; have HO153 := n0_; have HO156 := n1_; have BK148 := n2_; have HB := n3_; have BK159 := n4_; have GW159 := n5_; have GE159 := n6_; have NB148_159 := n7_; have NB159_148 := n8_; clear n0_ n1_ n2_ n3_ n4_ n5_ n6_ n7_ n8_; clear hb hbox hg; have hnb56 := NB159_148.out; have hnc56 := NB148_159.out; obtain ⟨hcz57_0, hcz57_1, hcz57_2, hfz57_0, hfz57_1, hfz57_2⟩ := blk3 BK159.out; obtain ⟨Ao58, co58, eo58⟩ := Kd.R_slice HO153.out; subst eo58; obtain ⟨Ao59, co59, eo59⟩ := Kd.R_slice HO156.out; subst eo59))
     go_ret2
     exact ⟨by first | rfl | (simp [*, errW_none, errW_some] <;> rfl), by exact bok HB.out⟩

/-! ### remontoirlaw17_wakes: function 9 -/
def remontoirlaw17_wakes.f (k : Nat)  : Option (Bool) := (def_Parse.f k (⟨#[112, 114, 111, 99, 101, 115, 115, 32, 97, 10, 115, 116, 97, 114, 116, 32, 48, 10, 101, 110, 100, 32, 48, 10, 102, 108, 111, 119, 32, 49, 32, 50, 10]⟩ : ByteArray)).bind fun bt162 => ((def_Print.f k bt162.1 bt162.2.1 bt162.2.2.1).bind fun bt172 => ((def_Parse.f k (⟨#[112, 114, 111, 99, 101, 115, 115, 32, 97, 10, 116, 97, 115, 107, 32, 48, 10]⟩ : ByteArray)).bind fun bt174 => ((def_Parse.f k (⟨#[112, 114, 111, 99, 101, 115, 115, 32, 97, 10, 115, 116, 97, 114, 116, 32, 48, 10, 102, 108, 111, 119, 32, 49, 32, 50, 32, 105, 102, 10]⟩ : ByteArray)).bind fun bt184 => (if bt162.2.2.2.2 = 0 then (if bt162.2.2.2.1 = 0 then (if bt162.1.toList = ([97] : List UInt8) then (if (bt162.2.1.length : Int) = 2 then (if 1 < (bt162.2.1.length : Int) then (if ((rd_T40 bt162.2.1 1).f0) = 2 then (if (bt162.2.2.1.length : Int) = 1 then (if bt172.1.toList = ([112, 114, 111, 99, 101, 115, 115, 32, 97, 10, 115, 116, 97, 114, 116, 32, 48, 10, 101, 110, 100, 32, 48, 10, 102, 108, 111, 119, 32, 49, 32, 50, 10] : List UInt8) then (if bt172.2 = true then (if bt174.2.2.2.1 = 2 then (if bt174.2.2.2.2 = 2 then (if bt184.2.2.2.1 = 3 then (some (bt184.2.2.2.2 == 2)) else (some false)) else (some false)) else (some false)) else (some false)) else (some false)) else (some false)) else (some false)) else (none)) else (some false)) else (some false)) else (some false)) else (some false)))))
theorem remontoirlaw17_wakes.mono : ∀ k, LeO (remontoirlaw17_wakes.f k ) (remontoirlaw17_wakes.f (k + 1) ) := by
 intro  k
 unfold remontoirlaw17_wakes.f
 repeat' first
   | (with_reducible exact def_Parse.mono _ _)
   | (with_reducible exact def_Print.mono _ _ _ _)
   | (with_reducible exact LeO.refl _)
   | (with_reducible exact LeO.none _)
   | (with_reducible refine LeO.ite ?_ ?_)
   | (with_reducible refine LeO.bind ?_ (fun _ => ?_))
   | exact def_Parse.mono _ _
   | exact def_Print.mono _ _ _ _
   | exact LeO.none _
   | refine LeO.ite ?_ ?_
   | refine LeO.bind ?_ (fun _ => ?_)
set_option maxHeartbeats 8000000 in
set_option maxRecDepth 100000 in
theorem remontoirlaw17_wakes.callsT (k : Nat)  (r : Bool) (w : World) (hTab : Tab w) (hr_ : r = true) (h : remontoirlaw17_wakes.f k  = some r) :
  Calls Tryd.prog 9 #[] w fun e w' => e = .returned (.bool r) ∧ Below w.heap.size w w' := by
 have hu25 := Tryd.underlying25
 have HB := mk0 (Below.refl w.heap.size w)
 have H : ((def_Parse.f k (⟨#[112, 114, 111, 99, 101, 115, 115, 32, 97, 10, 115, 116, 97, 114, 116, 32, 48, 10, 101, 110, 100, 32, 48, 10, 102, 108, 111, 119, 32, 49, 32, 50, 10]⟩ : ByteArray)).bind fun bt162 => ((def_Print.f k bt162.1 bt162.2.1 bt162.2.2.1).bind fun bt172 => ((def_Parse.f k (⟨#[112, 114, 111, 99, 101, 115, 115, 32, 97, 10, 116, 97, 115, 107, 32, 48, 10]⟩ : ByteArray)).bind fun bt174 => ((def_Parse.f k (⟨#[112, 114, 111, 99, 101, 115, 115, 32, 97, 10, 115, 116, 97, 114, 116, 32, 48, 10, 102, 108, 111, 119, 32, 49, 32, 50, 32, 105, 102, 10]⟩ : ByteArray)).bind fun bt184 => (if bt162.2.2.2.2 = 0 then (if bt162.2.2.2.1 = 0 then (if bt162.1.toList = ([97] : List UInt8) then (if (bt162.2.1.length : Int) = 2 then (if 1 < (bt162.2.1.length : Int) then (if ((rd_T40 bt162.2.1 1).f0) = 2 then (if (bt162.2.2.1.length : Int) = 1 then (if bt172.1.toList = ([112, 114, 111, 99, 101, 115, 115, 32, 97, 10, 115, 116, 97, 114, 116, 32, 48, 10, 101, 110, 100, 32, 48, 10, 102, 108, 111, 119, 32, 49, 32, 50, 10] : List UInt8) then (if bt172.2 = true then (if bt174.2.2.2.1 = 2 then (if bt174.2.2.2.2 = 2 then (if bt184.2.2.2.1 = 3 then (some (bt184.2.2.2.2 == 2)) else (some false)) else (some false)) else (some false)) else (some false)) else (some false)) else (some false)) else (some false)) else (none)) else (some false)) else (some false)) else (some false)) else (some false)))))) = some r := h
 clear h
 replace H := Option.bind_eq_some_iff.mp H
 obtain ⟨⟨t162, t163, t166, t169, t170⟩, A10, H⟩ := H
 replace H : ((def_Print.f k t162 t163 t166).bind fun bt172 => ((def_Parse.f k (⟨#[112, 114, 111, 99, 101, 115, 115, 32, 97, 10, 116, 97, 115, 107, 32, 48, 10]⟩ : ByteArray)).bind fun bt174 => ((def_Parse.f k (⟨#[112, 114, 111, 99, 101, 115, 115, 32, 97, 10, 115, 116, 97, 114, 116, 32, 48, 10, 102, 108, 111, 119, 32, 49, 32, 50, 32, 105, 102, 10]⟩ : ByteArray)).bind fun bt184 => (if t170 = 0 then (if t169 = 0 then (if t162.toList = ([97] : List UInt8) then (if (t163.length : Int) = 2 then (if 1 < (t163.length : Int) then (if ((rd_T40 t163 1).f0) = 2 then (if (t166.length : Int) = 1 then (if bt172.1.toList = ([112, 114, 111, 99, 101, 115, 115, 32, 97, 10, 115, 116, 97, 114, 116, 32, 48, 10, 101, 110, 100, 32, 48, 10, 102, 108, 111, 119, 32, 49, 32, 50, 10] : List UInt8) then (if bt172.2 = true then (if bt174.2.2.2.1 = 2 then (if bt174.2.2.2.2 = 2 then (if bt184.2.2.2.1 = 3 then (some (bt184.2.2.2.2 == 2)) else (some false)) else (some false)) else (some false)) else (some false)) else (some false)) else (some false)) else (some false)) else (none)) else (some false)) else (some false)) else (some false)) else (some false))))) = some r := H
 have A1 := mk0 A10
 clear A10
 replace H := Option.bind_eq_some_iff.mp H
 obtain ⟨⟨t172, t173⟩, A20, H⟩ := H
 replace H : ((def_Parse.f k (⟨#[112, 114, 111, 99, 101, 115, 115, 32, 97, 10, 116, 97, 115, 107, 32, 48, 10]⟩ : ByteArray)).bind fun bt174 => ((def_Parse.f k (⟨#[112, 114, 111, 99, 101, 115, 115, 32, 97, 10, 115, 116, 97, 114, 116, 32, 48, 10, 102, 108, 111, 119, 32, 49, 32, 50, 32, 105, 102, 10]⟩ : ByteArray)).bind fun bt184 => (if t170 = 0 then (if t169 = 0 then (if t162.toList = ([97] : List UInt8) then (if (t163.length : Int) = 2 then (if 1 < (t163.length : Int) then (if ((rd_T40 t163 1).f0) = 2 then (if (t166.length : Int) = 1 then (if t172.toList = ([112, 114, 111, 99, 101, 115, 115, 32, 97, 10, 115, 116, 97, 114, 116, 32, 48, 10, 101, 110, 100, 32, 48, 10, 102, 108, 111, 119, 32, 49, 32, 50, 10] : List UInt8) then (if t173 = true then (if bt174.2.2.2.1 = 2 then (if bt174.2.2.2.2 = 2 then (if bt184.2.2.2.1 = 3 then (some (bt184.2.2.2.2 == 2)) else (some false)) else (some false)) else (some false)) else (some false)) else (some false)) else (some false)) else (some false)) else (none)) else (some false)) else (some false)) else (some false)) else (some false)))) = some r := H
 have A2 := mk0 A20
 clear A20
 replace H := Option.bind_eq_some_iff.mp H
 obtain ⟨⟨t174, t175, t178, t181, t182⟩, A30, H⟩ := H
 replace H : ((def_Parse.f k (⟨#[112, 114, 111, 99, 101, 115, 115, 32, 97, 10, 115, 116, 97, 114, 116, 32, 48, 10, 102, 108, 111, 119, 32, 49, 32, 50, 32, 105, 102, 10]⟩ : ByteArray)).bind fun bt184 => (if t170 = 0 then (if t169 = 0 then (if t162.toList = ([97] : List UInt8) then (if (t163.length : Int) = 2 then (if 1 < (t163.length : Int) then (if ((rd_T40 t163 1).f0) = 2 then (if (t166.length : Int) = 1 then (if t172.toList = ([112, 114, 111, 99, 101, 115, 115, 32, 97, 10, 115, 116, 97, 114, 116, 32, 48, 10, 101, 110, 100, 32, 48, 10, 102, 108, 111, 119, 32, 49, 32, 50, 10] : List UInt8) then (if t173 = true then (if t181 = 2 then (if t182 = 2 then (if bt184.2.2.2.1 = 3 then (some (bt184.2.2.2.2 == 2)) else (some false)) else (some false)) else (some false)) else (some false)) else (some false)) else (some false)) else (some false)) else (none)) else (some false)) else (some false)) else (some false)) else (some false))) = some r := H
 have A3 := mk0 A30
 clear A30
 replace H := Option.bind_eq_some_iff.mp H
 obtain ⟨⟨t184, t185, t188, t191, t192⟩, A40, H⟩ := H
 replace H : (if t170 = 0 then (if t169 = 0 then (if t162.toList = ([97] : List UInt8) then (if (t163.length : Int) = 2 then (if 1 < (t163.length : Int) then (if ((rd_T40 t163 1).f0) = 2 then (if (t166.length : Int) = 1 then (if t172.toList = ([112, 114, 111, 99, 101, 115, 115, 32, 97, 10, 115, 116, 97, 114, 116, 32, 48, 10, 101, 110, 100, 32, 48, 10, 102, 108, 111, 119, 32, 49, 32, 50, 10] : List UInt8) then (if t173 = true then (if t181 = 2 then (if t182 = 2 then (if t191 = 3 then (some (t192 == 2)) else (some false)) else (some false)) else (some false)) else (some false)) else (some false)) else (some false)) else (some false)) else (none)) else (some false)) else (some false)) else (some false)) else (some false)) = some r := H
 have A4 := mk0 A40
 clear A40
 by_cases c5 : t170 = 0
 ·
  rw [if_pos c5] at H
  have c5b0 : (t170 == 0) = true := beq_iff_eq.mpr c5
  have c5b1 : (t170 != 0) = false := bne_eq_false_iff_eq.mpr c5
  clear c5
  by_cases c6 : t169 = 0
  ·
   rw [if_pos c6] at H
   have c6b0 : (t169 == 0) = true := beq_iff_eq.mpr c6
   have c6b1 : (t169 != 0) = false := bne_eq_false_iff_eq.mpr c6
   clear c6
   by_cases c7 : t162.toList = ([97] : List UInt8)
   ·
    rw [if_pos c7] at H
    have c7b0 : (t162.toList == ([97] : List UInt8)) = true := beq_iff_eq.mpr c7
    have c7b1 : (t162.toList != ([97] : List UInt8)) = false := bne_eq_false_iff_eq.mpr c7
    clear c7
    by_cases c8 : (t163.length : Int) = 2
    ·
     rw [if_pos c8] at H
     have c8b0 : ((t163.length : Int) == 2) = true := beq_iff_eq.mpr c8
     have c8b1 : ((t163.length : Int) != 2) = false := bne_eq_false_iff_eq.mpr c8
     clear c8
     by_cases c9 : 1 < (t163.length : Int)
     ·
      rw [if_pos c9] at H
      have c9b0 : decide (1 < (t163.length : Int)) = true := decide_eq_true c9
      have c9b1 : decide (1 < t163.length) = true := decide_eq_true (by omega)
      clear c9
      by_cases c10 : ((rd_T40 t163 1).f0) = 2
      ·
       rw [if_pos c10] at H
       have c10b0 : (((rd_T40 t163 1).f0) == 2) = true := beq_iff_eq.mpr c10
       have c10b1 : (((rd_T40 t163 1).f0) != 2) = false := bne_eq_false_iff_eq.mpr c10
       clear c10
       by_cases c11 : (t166.length : Int) = 1
       ·
        rw [if_pos c11] at H
        have c11b0 : ((t166.length : Int) == 1) = true := beq_iff_eq.mpr c11
        have c11b1 : ((t166.length : Int) != 1) = false := bne_eq_false_iff_eq.mpr c11
        clear c11
        by_cases c12 : t172.toList = ([112, 114, 111, 99, 101, 115, 115, 32, 97, 10, 115, 116, 97, 114, 116, 32, 48, 10, 101, 110, 100, 32, 48, 10, 102, 108, 111, 119, 32, 49, 32, 50, 10] : List UInt8)
        ·
         rw [if_pos c12] at H
         have c12b0 : (t172.toList == ([112, 114, 111, 99, 101, 115, 115, 32, 97, 10, 115, 116, 97, 114, 116, 32, 48, 10, 101, 110, 100, 32, 48, 10, 102, 108, 111, 119, 32, 49, 32, 50, 10] : List UInt8)) = true := beq_iff_eq.mpr c12
         have c12b1 : (t172.toList != ([112, 114, 111, 99, 101, 115, 115, 32, 97, 10, 115, 116, 97, 114, 116, 32, 48, 10, 101, 110, 100, 32, 48, 10, 102, 108, 111, 119, 32, 49, 32, 50, 10] : List UInt8)) = false := bne_eq_false_iff_eq.mpr c12
         clear c12
         by_cases c13 : t173 = true
         ·
          subst c13
          have H1 : (if t181 = 2 then (if t182 = 2 then (if t191 = 3 then (some (t192 == 2)) else (some false)) else (some false)) else (some false)) = some r := by rw [if_pos rfl] at H; exact H
          clear H
          have H := H1
          clear H1
          by_cases c14 : t181 = 2
          ·
           rw [if_pos c14] at H
           have c14b0 : (t181 == 2) = true := beq_iff_eq.mpr c14
           have c14b1 : (t181 != 2) = false := bne_eq_false_iff_eq.mpr c14
           clear c14
           by_cases c15 : t182 = 2
           ·
            rw [if_pos c15] at H
            have c15b0 : (t182 == 2) = true := beq_iff_eq.mpr c15
            have c15b1 : (t182 != 2) = false := bne_eq_false_iff_eq.mpr c15
            clear c15
            by_cases c16 : t191 = 3
            ·
             rw [if_pos c16] at H
             have c16b0 : (t191 == 3) = true := beq_iff_eq.mpr c16
             have c16b1 : (t191 != 3) = false := bne_eq_false_iff_eq.mpr c16
             clear c16
             obtain rfl := Option.some.inj H
             go_enter Tryd.func9, Tryd.ntmps9
             go_wp2_with (first | ((with_reducible refine gate_callee (f := 12) rfl ?_); refine goesL_ (some 13) rfl rfl Tryd.func12 (by kernel_rfl) rfl #[.string (⟨#[112, 114, 111, 99, 101, 115, 115, 32, 97, 10, 115, 116, 97, 114, 116, 32, 48, 10, 101, 110, 100, 32, 48, 10, 102, 108, 111, 119, 32, 49, 32, 50, 10]⟩ : ByteArray)] rfl (by (try simp only [List.map_toArray, List.map_cons, List.map_nil]); first | done | rfl | (simp only [List.length_drop, List.length_take]; rfl)) ?_; (with_reducible refine (def_Parse.calls k (⟨#[112, 114, 111, 99, 101, 115, 115, 32, 97, 10, 115, 116, 97, 114, 116, 32, 48, 10, 101, 110, 100, 32, 48, 10, 102, 108, 111, 119, 32, 49, 32, 50, 10]⟩ : ByteArray) t162 t163 t166 t169 t170 _ A1.out).mono ?_); rintro e w17 ⟨v164, v167, rfl, ho0, ho1, hb⟩; refine ⟨_, rfl, ?_⟩; have n0_ := mk0 (Kd.R_lower ho0 (below_size (by exact bok HB.out))); have n1_ := mk0 (Kd.R_lower ho1 (below_size (by exact bok HB.out))); have n2_ := mk0 (bst HB.out hb); clear HB; have HO165 := n0_; have HO168 := n1_; have HB := n2_; clear n0_ n1_ n2_; (try clear hb); (try clear ho0); (try clear ho1)) | ((with_reducible refine gate_dst (N := 1) rfl ?_); (try (refine gate_guard (by rfl) ?_; dsimp only)); refine box_event ?hg (N := 1) ?hd (cs := #[.string (⟨#[]⟩ : ByteArray), .slice none 0 0, .slice none 0 0]) (t := 25) ?hr ?_; (case hd => rfl); (case hg => rfl); (case hr => first | (go_simp; done) | (go_simp; rfl)); intro gb171 hg w18 hbox hb; have n0_ := mk0 (Kd.R_below (by exact rok HO165.out) hb); have n1_ := mk0 (Kd.R_below (by exact rok HO168.out) hb); have n2_ := mk0 (bst HB.out hb); have n3_ := mk0 (hbox); have n4_ := mk0 (gle hg HB.out); have n5_ := mk0 (gle hg HB.out); clear HO165; clear HO168; clear HB; have HO165 := n0_; have HO168 := n1_; have HB := n2_; have BK171 := n3_; have GW171 := n4_; have GE171 := n5_; clear n0_ n1_ n2_ n3_ n4_ n5_; clear hb hbox hg; obtain ⟨hcz19_0, hcz19_1, hcz19_2, hfz19_0, hfz19_1, hfz19_2⟩ := blk3 BK171.out; obtain ⟨Ao20, co20, eo20⟩ := Kd.R_slice HO165.out; subst eo20; obtain ⟨Ao21, co21, eo21⟩ := Kd.R_slice HO168.out; subst eo21) | ((with_reducible refine gate_callee (f := 10) rfl ?_); refine goesL_ (some 19) rfl rfl Tryd.func10 (by kernel_rfl) rfl #[.agg #[.string t162, .slice Ao20 t163.length co20, .slice Ao21 t166.length co21]] rfl (by (try simp only [List.map_toArray, List.map_cons, List.map_nil]); first | done | rfl | (simp only [List.length_drop, List.length_take]; rfl)) ?_; (with_reducible refine (def_Print.calls k t162 _ _ t163 _ _ t166 t172 true _ (Tab.below hTab (by exact bok HB.out))  ?side1 ?side2 ?side3 ?side4 A2.out).mono ?_); (case side1 => refine (Kd.R_reads' (e := 40) (base := w.heap.size) (ok := fun k_ => True) (n := t163.length) (c := co20) ?_).2.2; exact (by exact rok (Kd.R_mono (rfar 2 (rfar 1 (rfar 0 (Kd.R_types HO165.out BK171.out (by decide)) (.string t162)) (.slice Ao20 t163.length co20)) (.slice Ao21 t166.length co21)) (fun _ h_ => h_.1)))); (case side2 => exact (Kd.R_reads' HO165.out).2.1); (case side3 => refine (Kd.R_reads' (e := 42) (base := w.heap.size) (ok := fun k_ => True) (n := t166.length) (c := co21) ?_).2.2; exact (by exact rok (Kd.R_mono (rfar 2 (rfar 1 (rfar 0 (Kd.R_types HO168.out BK171.out (by decide)) (.string t162)) (.slice Ao20 t163.length co20)) (.slice Ao21 t166.length co21)) (fun _ h_ => h_.1)))); (case side4 => exact (Kd.R_reads' HO168.out).2.1); rintro e w22 ⟨rfl, hb⟩; refine ⟨_, rfl, ?_⟩; have n0_ := mk0 (Kd.R_below (by exact rok (Kd.R_mono (rfar 2 (rfar 1 (rfar 0 (Kd.R_types HO165.out BK171.out (by decide)) (.string t162)) (.slice Ao20 t163.length co20)) (.slice Ao21 t166.length co21)) (fun _ h_ => h_.1))) hb); have n1_ := mk0 (Kd.R_below (by exact rok (Kd.R_mono (rfar 2 (rfar 1 (rfar 0 (Kd.R_types HO168.out BK171.out (by decide)) (.string t162)) (.slice Ao20 t163.length co20)) (.slice Ao21 t166.length co21)) (fun _ h_ => h_.1))) hb); have n2_ := mk0 (blk_below (g := gb171) (o := .cells #[.string t162, .slice Ao20 t163.length co20, .slice Ao21 t166.length co21] 25 (0, 0)) (by exact obk (blk_put (obk (blk_put (obk (blk_put (obk BK171.out) 0 _ rfl)) 1 _ rfl)) 2 _ rfl)) hb); have n3_ := mk0 (bst HB.out hb); clear HO165; clear HO168; clear BK171; clear HB; have HO165 := n0_; have HO168 := n1_; have BK171 := n2_; have HB := n3_; clear n0_ n1_ n2_ n3_; (try clear hb)) | ((with_reducible refine gate_callee (f := 12) rfl ?_); refine goesL_ (some 23) rfl rfl Tryd.func12 (by kernel_rfl) rfl #[.string (⟨#[112, 114, 111, 99, 101, 115, 115, 32, 97, 10, 116, 97, 115, 107, 32, 48, 10]⟩ : ByteArray)] rfl (by (try simp only [List.map_toArray, List.map_cons, List.map_nil]); first | done | rfl | (simp only [List.length_drop, List.length_take]; rfl)) ?_; (with_reducible refine (def_Parse.calls k (⟨#[112, 114, 111, 99, 101, 115, 115, 32, 97, 10, 116, 97, 115, 107, 32, 48, 10]⟩ : ByteArray) t174 t175 t178 t181 t182 _ A3.out).mono ?_); rintro e w23 ⟨v176, v179, rfl, ho0, ho1, hb⟩; refine ⟨_, rfl, ?_⟩; have n0_ := mk0 (Kd.R_elder' (by exact rok HO165.out) (Kd.R_base ho0) hb); have n1_ := mk0 (Kd.R_elder' (by exact rok HO168.out) (Kd.R_base ho1) hb); have n2_ := mk0 (Kd.R_lower (Kd.R_new' ho0 (Kd.R_lt (by exact rok HO165.out))) (below_size (by exact bok HB.out))); have n3_ := mk0 (Kd.R_lower (Kd.R_new' ho1 (Kd.R_lt (by exact rok HO168.out))) (below_size (by exact bok HB.out))); have n4_ := mk0 (blk_below (obk BK171.out) hb); have n5_ := mk0 (bst HB.out hb); clear HO165; clear HO168; clear BK171; clear HB; have HO165 := n0_; have HO168 := n1_; have HO177 := n2_; have HO180 := n3_; have BK171 := n4_; have HB := n5_; clear n0_ n1_ n2_ n3_ n4_ n5_; (try clear hb); (try clear ho0); (try clear ho1)) | ((with_reducible refine gate_dst (N := 6) rfl ?_); (try (refine gate_guard (by rfl) ?_; dsimp only)); refine box_event ?hg (N := 6) ?hd (cs := #[.string (⟨#[]⟩ : ByteArray), .slice none 0 0, .slice none 0 0]) (t := 25) ?hr ?_; (case hd => rfl); (case hg => rfl); (case hr => first | (go_simp; done) | (go_simp; rfl)); intro gb183 hg w24 hbox hb; have n0_ := mk0 (Kd.R_below (by exact rok HO165.out) hb); have n1_ := mk0 (Kd.R_below (by exact rok HO168.out) hb); have n2_ := mk0 (Kd.R_below (by exact rok HO177.out) hb); have n3_ := mk0 (Kd.R_below (by exact rok HO180.out) hb); have n4_ := mk0 (blk_below (obk BK171.out) hb); have n5_ := mk0 (bst HB.out hb); have n6_ := mk0 (hbox); have n7_ := mk0 (gle hg HB.out); have n8_ := mk0 (gle hg HB.out); have n9_ := mk0 (nlt hg BK171.out); have n10_ := mk0 (ngt hg BK171.out); clear HO165; clear HO168; clear HO177; clear HO180; clear BK171; clear HB; have HO165 := n0_; have HO168 := n1_; have HO177 := n2_; have HO180 := n3_; have BK171 := n4_; have HB := n5_; have BK183 := n6_; have GW183 := n7_; have GE183 := n8_; have NB171_183 := n9_; have NB183_171 := n10_; clear n0_ n1_ n2_ n3_ n4_ n5_ n6_ n7_ n8_ n9_ n10_; clear hb hbox hg; have hnb25 := NB183_171.out; have hnc25 := NB171_183.out; obtain ⟨hcz26_0, hcz26_1, hcz26_2, hfz26_0, hfz26_1, hfz26_2⟩ := blk3 BK183.out; obtain ⟨Ao27, co27, eo27⟩ := Kd.R_slice HO177.out; subst eo27; obtain ⟨Ao28, co28, eo28⟩ := Kd.R_slice HO180.out; subst eo28) | ((with_reducible refine gate_callee (f := 12) rfl ?_); refine goesL_ (some 28) rfl rfl Tryd.func12 (by kernel_rfl) rfl #[.string (⟨#[112, 114, 111, 99, 101, 115, 115, 32, 97, 10, 115, 116, 97, 114, 116, 32, 48, 10, 102, 108, 111, 119, 32, 49, 32, 50, 32, 105, 102, 10]⟩ : ByteArray)] rfl (by (try simp only [List.map_toArray, List.map_cons, List.map_nil]); first | done | rfl | (simp only [List.length_drop, List.length_take]; rfl)) ?_; (with_reducible refine (def_Parse.calls k (⟨#[112, 114, 111, 99, 101, 115, 115, 32, 97, 10, 115, 116, 97, 114, 116, 32, 48, 10, 102, 108, 111, 119, 32, 49, 32, 50, 32, 105, 102, 10]⟩ : ByteArray) t184 t185 t188 t191 t192 _ A4.out).mono ?_); rintro e w29 ⟨v186, v189, rfl, ho0, ho1, hb⟩; refine ⟨_, rfl, ?_⟩; have n0_ := mk0 (Kd.R_elder' (by exact rok (Kd.R_mono (rfar 2 (rfar 1 (rfar 0 (Kd.R_types HO165.out BK183.out (by decide)) (.string t174)) (.slice Ao27 t175.length co27)) (.slice Ao28 t178.length co28)) (fun _ h_ => h_.1))) (Kd.R_base ho0) hb); have n1_ := mk0 (Kd.R_elder' (by exact rok (Kd.R_mono (rfar 2 (rfar 1 (rfar 0 (Kd.R_types HO168.out BK183.out (by decide)) (.string t174)) (.slice Ao27 t175.length co27)) (.slice Ao28 t178.length co28)) (fun _ h_ => h_.1))) (Kd.R_base ho1) hb); have n2_ := mk0 (Kd.R_elder' (by exact rok (Kd.R_mono (rfar 2 (rfar 1 (rfar 0 (Kd.R_types HO177.out BK183.out (by decide)) (.string t174)) (.slice Ao27 t175.length co27)) (.slice Ao28 t178.length co28)) (fun _ h_ => h_.1))) (Kd.R_base ho0) hb); have n3_ := mk0 (Kd.R_elder' (by exact rok (Kd.R_mono (rfar 2 (rfar 1 (rfar 0 (Kd.R_types HO180.out BK183.out (by decide)) (.string t174)) (.slice Ao27 t175.length co27)) (.slice Ao28 t178.length co28)) (fun _ h_ => h_.1))) (Kd.R_base ho1) hb); have n4_ := mk0 (Kd.R_lower (Kd.R_new' (Kd.R_new' ho0 (Kd.R_lt (by exact rok (Kd.R_mono (rfar 2 (rfar 1 (rfar 0 (Kd.R_types HO165.out BK183.out (by decide)) (.string t174)) (.slice Ao27 t175.length co27)) (.slice Ao28 t178.length co28)) (fun _ h_ => h_.1))))) (Kd.R_lt (by exact rok (Kd.R_mono (rfar 2 (rfar 1 (rfar 0 (Kd.R_types HO177.out BK183.out (by decide)) (.string t174)) (.slice Ao27 t175.length co27)) (.slice Ao28 t178.length co28)) (fun _ h_ => h_.1))))) (below_size (by exact bok HB.out))); have n5_ := mk0 (Kd.R_lower (Kd.R_new' (Kd.R_new' ho1 (Kd.R_lt (by exact rok (Kd.R_mono (rfar 2 (rfar 1 (rfar 0 (Kd.R_types HO168.out BK183.out (by decide)) (.string t174)) (.slice Ao27 t175.length co27)) (.slice Ao28 t178.length co28)) (fun _ h_ => h_.1))))) (Kd.R_lt (by exact rok (Kd.R_mono (rfar 2 (rfar 1 (rfar 0 (Kd.R_types HO180.out BK183.out (by decide)) (.string t174)) (.slice Ao27 t175.length co27)) (.slice Ao28 t178.length co28)) (fun _ h_ => h_.1))))) (below_size (by exact bok HB.out))); have n6_ := mk0 (blk_below (obf BK171.out) hb); have n7_ := mk0 (blk_below (g := gb183) (o := .cells #[.string t174, .slice Ao27 t175.length co27, .slice Ao28 t178.length co28] 25 (0, 0)) (by exact obk (blk_put (obk (blk_put (obk (blk_put (obk BK183.out) 0 _ rfl)) 1 _ rfl)) 2 _ rfl)) hb); have n8_ := mk0 (bst HB.out hb); clear HO165; clear HO168; clear HO177; clear HO180; clear BK171; clear BK183; clear HB; have HO165 := n0_; have HO168 := n1_; have HO177 := n2_; have HO180 := n3_; have HO187 := n4_; have HO190 := n5_; have BK171 := n6_; have BK183 := n7_; have HB := n8_; clear n0_ n1_ n2_ n3_ n4_ n5_ n6_ n7_ n8_; (try clear hb); (try clear ho0); (try clear ho1)) | ((with_reducible refine gate_dst (N := 9) rfl ?_); (try (refine gate_guard (by rfl) ?_; dsimp only)); refine box_event ?hg (N := 9) ?hd (cs := #[.string (⟨#[]⟩ : ByteArray), .slice none 0 0, .slice none 0 0]) (t := 25) ?hr ?_; (case hd => rfl); (case hg => rfl); (case hr => first | (go_simp; done) | (go_simp; rfl)); intro gb193 hg w30 hbox hb; have n0_ := mk0 (Kd.R_below (by exact rok HO165.out) hb); have n1_ := mk0 (Kd.R_below (by exact rok HO168.out) hb); have n2_ := mk0 (Kd.R_below (by exact rok HO177.out) hb); have n3_ := mk0 (Kd.R_below (by exact rok HO180.out) hb); have n4_ := mk0 (Kd.R_below (by exact rok HO187.out) hb); have n5_ := mk0 (Kd.R_below (by exact rok HO190.out) hb); have n6_ := mk0 (blk_below (obk BK171.out) hb); have n7_ := mk0 (blk_below (obk BK183.out) hb); have n8_ := mk0 (bst HB.out hb); have n9_ := mk0 (hbox); have n10_ := mk0 (gle hg HB.out); have n11_ := mk0 (gle hg HB.out); have n12_ := mk0 (nlt hg BK171.out); have n13_ := mk0 (ngt hg BK171.out); have n14_ := mk0 (nlt hg BK183.out); have n15_ := mk0 (ngt hg BK183.out); clear HO165; clear HO168; clear HO177; clear HO180; clear HO187; clear HO190; clear BK171; clear BK183; clear HB; have HO165 := n0_; have HO168 := n1_; have HO177 := n2_; have HO180 := n3_; have HO187 := n4_; have HO190 := n5_; have BK171 := n6_; have BK183 := n7_; have HB := n8_; have BK193 := n9_; have GW193 := n10_; have GE193 := n11_; have NB171_193 := n12_; have NB193_171 := n13_; have NB183_193 := n14_; have NB193_183 := n15_; clear n0_ n1_ n2_ n3_ n4_ n5_ n6_ n7_ n8_ n9_ n10_ n11_ n12_ n13_ n14_ n15_; clear hb hbox hg; have hnb31 := NB193_171.out; have hnc31 := NB171_193.out; have hnb32 := NB193_183.out; have hnc32 := NB183_193.out; obtain ⟨hcz33_0, hcz33_1, hcz33_2, hfz33_0, hfz33_1, hfz33_2⟩ := blk3 BK193.out; obtain ⟨Ao34, co34, eo34⟩ := Kd.R_slice HO187.out; subst eo34; obtain ⟨Ao35, co35, eo35⟩ := Kd.R_slice HO190.out; subst eo35; obtain ⟨hcz36_0, hcz36_1, hcz36_2, hfz36_0, hfz36_1, hfz36_2⟩ := blk3 BK171.out; have p194 : 0 ≤ (1 : Int) := (by omega); have q194 : 1 < (t163.length : Int) := of_decide_eq_true (by assumption); obtain ⟨ad194, e194, hx194_0, hx194_1, hx194_2, hx194_3, hx194_4⟩ := at_T40 (Kd.R_reads' HO165.out).2.2 1 p194 q194; cases e194; (try simp only [show (1 : Int).toNat = 1 from rfl, Nat.reduceMul, Nat.reduceEqDiff, Go.Addr.add, ↓reduceIte] at hx194_0); (try simp only [show (1 : Int).toNat = 1 from rfl, Nat.reduceMul, Nat.reduceEqDiff, Go.Addr.add, ↓reduceIte] at hx194_1); (try simp only [show (1 : Int).toNat = 1 from rfl, Nat.reduceMul, Nat.reduceEqDiff, Go.Addr.add, ↓reduceIte] at hx194_2); (try simp only [show (1 : Int).toNat = 1 from rfl, Nat.reduceMul, Nat.reduceEqDiff, Go.Addr.add, ↓reduceIte] at hx194_3); (try simp only [show (1 : Int).toNat = 1 from rfl, Nat.reduceMul, Nat.reduceEqDiff, Go.Addr.add, ↓reduceIte] at hx194_4); have qi194 : (1 < t163.length) = True := eq_true (by omega); (try rw [show ((1 : Int)).toNat = 1 from rfl] at hx194_0); (try rw [show 1 * 5 = 5 from rfl] at hx194_0); (try rw [show ((1 : Int)).toNat = 1 from rfl] at hx194_1); (try rw [show 1 * 5 = 5 from rfl] at hx194_1); (try rw [show ((1 : Int)).toNat = 1 from rfl] at hx194_2); (try rw [show 1 * 5 = 5 from rfl] at hx194_2); (try rw [show ((1 : Int)).toNat = 1 from rfl] at hx194_3); (try rw [show 1 * 5 = 5 from rfl] at hx194_3); (try rw [show ((1 : Int)).toNat = 1 from rfl] at hx194_4); (try rw [show 1 * 5 = 5 from rfl] at hx194_4); have hn194_0 : ad194.block ≠ gb193 := Kd.own_blk (Kd.R_ne HO165.out BK193.out (by decide)); have hn194_1 : ad194.block ≠ gb193 := Kd.own_blk (Kd.R_ne HO165.out BK193.out (by decide)); have hn194_2 : ad194.block ≠ gb193 := Kd.own_blk (Kd.R_ne HO165.out BK193.out (by decide)); replace hx194_0 := (cell_far (p := ⟨gb193, 0, none⟩) (by first | (rw [add_block]; exact hn194_0) | (show (Addr.add _ _).block ≠ _; rw [add_block]; exact hn194_0) | exact hn194_0) (.string t184)).trans hx194_0; replace hx194_1 := (cell_far (p := ⟨gb193, 0, none⟩) (by first | (rw [add_block]; exact hn194_0) | (show (Addr.add _ _).block ≠ _; rw [add_block]; exact hn194_0) | exact hn194_0) (.string t184)).trans hx194_1; replace hx194_2 := (cell_far (p := ⟨gb193, 0, none⟩) (by first | (rw [add_block]; exact hn194_0) | (show (Addr.add _ _).block ≠ _; rw [add_block]; exact hn194_0) | exact hn194_0) (.string t184)).trans hx194_2; replace hx194_3 := (cell_far (p := ⟨gb193, 0, none⟩) (by first | (rw [add_block]; exact hn194_0) | (show (Addr.add _ _).block ≠ _; rw [add_block]; exact hn194_0) | exact hn194_0) (.string t184)).trans hx194_3; replace hx194_4 := (cell_far (p := ⟨gb193, 0, none⟩) (by first | (rw [add_block]; exact hn194_0) | (show (Addr.add _ _).block ≠ _; rw [add_block]; exact hn194_0) | exact hn194_0) (.string t184)).trans hx194_4; replace hx194_0 := (cell_far (p := ⟨gb193, 1, none⟩) (by first | (rw [add_block]; exact hn194_1) | (show (Addr.add _ _).block ≠ _; rw [add_block]; exact hn194_1) | exact hn194_1) (.slice Ao34 t185.length co34)).trans hx194_0; replace hx194_1 := (cell_far (p := ⟨gb193, 1, none⟩) (by first | (rw [add_block]; exact hn194_1) | (show (Addr.add _ _).block ≠ _; rw [add_block]; exact hn194_1) | exact hn194_1) (.slice Ao34 t185.length co34)).trans hx194_1; replace hx194_2 := (cell_far (p := ⟨gb193, 1, none⟩) (by first | (rw [add_block]; exact hn194_1) | (show (Addr.add _ _).block ≠ _; rw [add_block]; exact hn194_1) | exact hn194_1) (.slice Ao34 t185.length co34)).trans hx194_2; replace hx194_3 := (cell_far (p := ⟨gb193, 1, none⟩) (by first | (rw [add_block]; exact hn194_1) | (show (Addr.add _ _).block ≠ _; rw [add_block]; exact hn194_1) | exact hn194_1) (.slice Ao34 t185.length co34)).trans hx194_3; replace hx194_4 := (cell_far (p := ⟨gb193, 1, none⟩) (by first | (rw [add_block]; exact hn194_1) | (show (Addr.add _ _).block ≠ _; rw [add_block]; exact hn194_1) | exact hn194_1) (.slice Ao34 t185.length co34)).trans hx194_4; replace hx194_0 := (cell_far (p := ⟨gb193, 2, none⟩) (by first | (rw [add_block]; exact hn194_2) | (show (Addr.add _ _).block ≠ _; rw [add_block]; exact hn194_2) | exact hn194_2) (.slice Ao35 t188.length co35)).trans hx194_0; replace hx194_1 := (cell_far (p := ⟨gb193, 2, none⟩) (by first | (rw [add_block]; exact hn194_2) | (show (Addr.add _ _).block ≠ _; rw [add_block]; exact hn194_2) | exact hn194_2) (.slice Ao35 t188.length co35)).trans hx194_1; replace hx194_2 := (cell_far (p := ⟨gb193, 2, none⟩) (by first | (rw [add_block]; exact hn194_2) | (show (Addr.add _ _).block ≠ _; rw [add_block]; exact hn194_2) | exact hn194_2) (.slice Ao35 t188.length co35)).trans hx194_2; replace hx194_3 := (cell_far (p := ⟨gb193, 2, none⟩) (by first | (rw [add_block]; exact hn194_2) | (show (Addr.add _ _).block ≠ _; rw [add_block]; exact hn194_2) | exact hn194_2) (.slice Ao35 t188.length co35)).trans hx194_3; replace hx194_4 := (cell_far (p := ⟨gb193, 2, none⟩) (by first | (rw [add_block]; exact hn194_2) | (show (Addr.add _ _).block ≠ _; rw [add_block]; exact hn194_2) | exact hn194_2) (.slice Ao35 t188.length co35)).trans hx194_4; clear hn194_0; clear hn194_1; clear hn194_2; replace p194 := eq_true p194; replace q194 := eq_true q194))
             go_ret
             exact ⟨by first | rfl | (simp [*, errW_none, errW_some] <;> rfl), by exact bok HB.out⟩
            ·
             rw [if_neg c16] at H
             exact absurd (Option.some.inj H) (by rw [hr_]; decide)
           ·
            rw [if_neg c15] at H
            exact absurd (Option.some.inj H) (by rw [hr_]; decide)
          ·
           rw [if_neg c14] at H
           exact absurd (Option.some.inj H) (by rw [hr_]; decide)
         ·
          replace c13 := Bool.eq_false_iff.mpr c13
          subst c13
          have H1 : (some false) = some r := by rw [if_neg (show ¬ (false = true) by decide)] at H; exact H
          exact absurd (Option.some.inj H1) (by rw [hr_]; decide)
        ·
         rw [if_neg c12] at H
         exact absurd (Option.some.inj H) (by rw [hr_]; decide)
       ·
        rw [if_neg c11] at H
        exact absurd (Option.some.inj H) (by rw [hr_]; decide)
      ·
       rw [if_neg c10] at H
       exact absurd (Option.some.inj H) (by rw [hr_]; decide)
     ·
      rw [if_neg c9] at H
      exact absurd H (by simp)
    ·
     rw [if_neg c8] at H
     exact absurd (Option.some.inj H) (by rw [hr_]; decide)
   ·
    rw [if_neg c7] at H
    exact absurd (Option.some.inj H) (by rw [hr_]; decide)
  ·
   rw [if_neg c6] at H
   exact absurd (Option.some.inj H) (by rw [hr_]; decide)
 ·
  rw [if_neg c5] at H
  exact absurd (Option.some.inj H) (by rw [hr_]; decide)
theorem remontoirlaw17_wakes.ok : remontoirlaw17_wakes.f 100 = some true := by kernel_rfl
theorem remontoirlaw17_wakes.calls (k : Nat)  (r : Bool) (w : World) (hTab : Tab w) (h : remontoirlaw17_wakes.f k  = some r) :
  Calls Tryd.prog 9 #[] w fun e w' => e = .returned (.bool r) ∧ Below w.heap.size w w' :=
 remontoirlaw17_wakes.callsT k r w hTab (by have e1 := more_rounds (fun k => remontoirlaw17_wakes.mono k) k 100 r h; have e2 := more_rounds (fun k => remontoirlaw17_wakes.mono k) 100 k true remontoirlaw17_wakes.ok; rw [Nat.add_comm] at e2; rw [e1] at e2; exact Option.some.inj e2) h
/-! ### remontoirref17_words: function 31 -/
def remontoirref17_words.f  : Option (List ByteArray) := some (([(⟨#[]⟩ : ByteArray), (⟨#[115, 116, 97, 114, 116]⟩ : ByteArray), (⟨#[101, 110, 100]⟩ : ByteArray), (⟨#[116, 97, 115, 107]⟩ : ByteArray), (⟨#[99, 97, 116, 99, 104]⟩ : ByteArray), (⟨#[120, 111, 114]⟩ : ByteArray), (⟨#[97, 110, 100]⟩ : ByteArray), (⟨#[115, 117, 98]⟩ : ByteArray), (⟨#[115, 116, 111, 112]⟩ : ByteArray), (⟨#[115, 105, 100, 101]⟩ : ByteArray)] : List ByteArray))
set_option maxHeartbeats 8000000 in
set_option maxRecDepth 100000 in
theorem remontoirref17_words.calls  (r : List ByteArray) (w : World) (h : remontoirref17_words.f  = some r) :
  Calls Tryd.prog 31 #[] w fun e w' => ∃ v0_ : Value, e = .returned (v0_) ∧ Kd.R Kd.string 9 w' w.heap.size (fun _ => True) v0_ r ∧ Below w.heap.size w w' := by
 have HB := mk0 (Below.refl w.heap.size w)
 have H : (some (([(⟨#[]⟩ : ByteArray), (⟨#[115, 116, 97, 114, 116]⟩ : ByteArray), (⟨#[101, 110, 100]⟩ : ByteArray), (⟨#[116, 97, 115, 107]⟩ : ByteArray), (⟨#[99, 97, 116, 99, 104]⟩ : ByteArray), (⟨#[120, 111, 114]⟩ : ByteArray), (⟨#[97, 110, 100]⟩ : ByteArray), (⟨#[115, 117, 98]⟩ : ByteArray), (⟨#[115, 116, 111, 112]⟩ : ByteArray), (⟨#[115, 105, 100, 101]⟩ : ByteArray)] : List ByteArray))) = some r := h
 clear h
 obtain ⟨y195, hy195⟩ : ∃ y_ : List ByteArray, y_ = (([(⟨#[]⟩ : ByteArray), (⟨#[115, 116, 97, 114, 116]⟩ : ByteArray), (⟨#[101, 110, 100]⟩ : ByteArray), (⟨#[116, 97, 115, 107]⟩ : ByteArray), (⟨#[99, 97, 116, 99, 104]⟩ : ByteArray), (⟨#[120, 111, 114]⟩ : ByteArray), (⟨#[97, 110, 100]⟩ : ByteArray), (⟨#[115, 117, 98]⟩ : ByteArray), (⟨#[115, 116, 111, 112]⟩ : ByteArray), (⟨#[115, 105, 100, 101]⟩ : ByteArray)] : List ByteArray)) := ⟨_, rfl⟩
 replace H : (some y195) = some r := by first | (rw [hy195]; with_reducible exact H) | (have H2_ := (Option.bind_some _ _).symm.trans H; rw [hy195]; with_reducible exact H2_) | (have H2_ := (Option.bind_some _ _).symm.trans H; with_reducible exact H2_) | with_reducible exact H | (rw [hy195]; exact H) | exact H
 have Ny195 := mk0 hy195
 clear hy195
 obtain rfl := Option.some.inj H
 go_enter Tryd.func31, Tryd.ntmps31
 go_wp2_with (first | ((with_reducible refine gate_dst (N := 1) rfl ?_); refine Kd.R_lit Kd.string _ 9 ?hg (N := 1) ?hd (xs := ([(⟨#[]⟩ : ByteArray), (⟨#[115, 116, 97, 114, 116]⟩ : ByteArray), (⟨#[101, 110, 100]⟩ : ByteArray), (⟨#[116, 97, 115, 107]⟩ : ByteArray), (⟨#[99, 97, 116, 99, 104]⟩ : ByteArray), (⟨#[120, 111, 114]⟩ : ByteArray), (⟨#[97, 110, 100]⟩ : ByteArray), (⟨#[115, 117, 98]⟩ : ByteArray), (⟨#[115, 116, 111, 112]⟩ : ByteArray), (⟨#[115, 105, 100, 101]⟩ : ByteArray)] : List ByteArray)) (inner := [.string (⟨#[]⟩ : ByteArray), .string (⟨#[115, 116, 97, 114, 116]⟩ : ByteArray), .string (⟨#[101, 110, 100]⟩ : ByteArray), .string (⟨#[116, 97, 115, 107]⟩ : ByteArray), .string (⟨#[99, 97, 116, 99, 104]⟩ : ByteArray), .string (⟨#[120, 111, 114]⟩ : ByteArray), .string (⟨#[97, 110, 100]⟩ : ByteArray), .string (⟨#[115, 117, 98]⟩ : ByteArray), .string (⟨#[115, 116, 111, 112]⟩ : ByteArray), .string (⟨#[115, 105, 100, 101]⟩ : ByteArray)]) (ok := fun _ => True) (okp := fun _ => True) ?hr ?hp (fun _ hk => hk) trivial (Below.refl _ _) (Nat.le_refl _) (by simp) ?_; (case hd => rfl); (case hg => rfl); (case hr => first | (go_simp; done) | (go_simp; rfl)); (case hp => exact (Reps.one (show Kd.M Kd.string _ _ _ (⟨#[]⟩ : ByteArray) [.string (⟨#[]⟩ : ByteArray)] from rfl) (Reps.one (show Kd.M Kd.string _ _ _ (⟨#[115, 116, 97, 114, 116]⟩ : ByteArray) [.string (⟨#[115, 116, 97, 114, 116]⟩ : ByteArray)] from rfl) (Reps.one (show Kd.M Kd.string _ _ _ (⟨#[101, 110, 100]⟩ : ByteArray) [.string (⟨#[101, 110, 100]⟩ : ByteArray)] from rfl) (Reps.one (show Kd.M Kd.string _ _ _ (⟨#[116, 97, 115, 107]⟩ : ByteArray) [.string (⟨#[116, 97, 115, 107]⟩ : ByteArray)] from rfl) (Reps.one (show Kd.M Kd.string _ _ _ (⟨#[99, 97, 116, 99, 104]⟩ : ByteArray) [.string (⟨#[99, 97, 116, 99, 104]⟩ : ByteArray)] from rfl) (Reps.one (show Kd.M Kd.string _ _ _ (⟨#[120, 111, 114]⟩ : ByteArray) [.string (⟨#[120, 111, 114]⟩ : ByteArray)] from rfl) (Reps.one (show Kd.M Kd.string _ _ _ (⟨#[97, 110, 100]⟩ : ByteArray) [.string (⟨#[97, 110, 100]⟩ : ByteArray)] from rfl) (Reps.one (show Kd.M Kd.string _ _ _ (⟨#[115, 117, 98]⟩ : ByteArray) [.string (⟨#[115, 117, 98]⟩ : ByteArray)] from rfl) (Reps.one (show Kd.M Kd.string _ _ _ (⟨#[115, 116, 111, 112]⟩ : ByteArray) [.string (⟨#[115, 116, 111, 112]⟩ : ByteArray)] from rfl) (Reps.one (show Kd.M Kd.string _ _ _ (⟨#[115, 105, 100, 101]⟩ : ByteArray) [.string (⟨#[115, 105, 100, 101]⟩ : ByteArray)] from rfl) (Reps.none _ _)))))))))))); intro v196 w1 ho2 hb hg_ hnew_; clear hg_ hnew_; (first | rw [← Ny195.out] at ho2 | (simp only [Int.reduceToNat] at ho2; rw [← Ny195.out] at ho2)); have n0_ := mk0 (Kd.R_lower ho2 (below_size (by exact bok HB.out))); have n1_ := mk0 (bst HB.out hb); clear HB; have HO197 := n0_; have HB := n1_; clear n0_ n1_; clear hb ho2))
 go_ret
 exact ⟨_, by first | rfl | (simp [*, errW_none, errW_some] <;> rfl), by exact rok HO197.out, by exact bok HB.out⟩

end Go.Proofs.YtpalncojmknlbaaDoor.Y
