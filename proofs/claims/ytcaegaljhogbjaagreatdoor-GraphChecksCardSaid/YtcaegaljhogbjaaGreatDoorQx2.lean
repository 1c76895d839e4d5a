/- What Go functions compute, as plain Lean functions, and that the machine comes to just that: written by wip/tools/printx.py (my run of the printer, with contracts of mine beside it). -/
import Derived.Test.YtcaegaljhogbjaaGreatDoorOn
import Derived.Test.YtcaegaljhogbjaaGreatDoorQx0
namespace Go.Proofs.YtcaegaljhogbjaaGreatDoor.Q
open Go.Proofs.YtcaegaljhogbjaaGreatDoor.Ext Go.Proofs.YtcaegaljhogbjaaGreatDoor.B Go.RowKit Go.Proofs.YtcaegaljhogbjaaGreatDoorW.PrintWords Go.Proofs.YtcaegaljhogbjaaGreatDoorW.PrintLast Go.Proofs.YtcaegaljhogbjaaGreatDoorW.PrintMore
attribute [local go_sem] max2_int min2_int max_two min_two max_three min_three max_four min_four   -- for this text's walks alone
set_option linter.unusedVariables false
set_option linter.unusedSimpArgs false

/-! ### zaa: function 85 -/
mutual
def zaa.j0 : Nat → ByteArray → Bool → Option (Int × Int)
 | 0, _, _ => none
 | k + 1, x0, x22 => if x22 = true then (some (0, 2)) else ((zae.f k x0 1).bind fun bt111 => (if bt111.2.2 = true then (zaa.j1 k x0 1 0 bt111.1 bt111.2.1 (decide (bt111.2.1 < (x0.size : Int)))) else (zaa.j1 k x0 1 0 bt111.1 bt111.2.1 false)))
def zaa.j1 : Nat → ByteArray → Int → Int → Int → Int → Bool → Option (Int × Int)
 | 0, _, _, _, _, _, _ => none
 | k + 1, x0, x4, x5, x6, x7, x35 => if x35 = true then (if 0 ≤ x7 then (if x7 < (x0.size : Int) then (if (bt x0 x7) = 89 then (zaa.j2 k x0 x6 x7 (bt x0 x7) ((bt x0 x7) == 89)) else (zaa.j2 k x0 x6 x7 (bt x0 x7) ((bt x0 x7) == 77))) else (none)) else (none)) else (zaa.j3 k x0 x4 x5)
def zaa.j3 : Nat → ByteArray → Int → Int → Option (Int × Int)
 | 0, _, _, _ => none
 | k + 1, x0, x4, x5 => if x4 < (x0.size : Int) then (if 0 ≤ x4 then (if (bt x0 x4) = 84 then (zaa.l0 k x0 (wrap64 (x4 + 1)) x5 false (([3600, 60, 1] : List Int)) 0) else (some (0, 2))) else (none)) else (if x5 > 1125899906842624 then (some (0, 3)) else (some (x5, 0)))
def zaa.l0 : Nat → ByteArray → Int → Int → Bool → List Int → Int → Option (Int × Int)
 | 0, _, _, _, _, _, _ => none
 | k + 1, x0, x4, x5, x9, x10, x11 => if x11 < 3 then ((zae.f k x0 x4).bind fun bt119 => (if bt119.2.2 = true then (if bt119.2.1 < (x0.size : Int) then (if 0 ≤ bt119.2.1 then (if 0 ≤ x11 then (if (bt x0 bt119.2.1) = (bt (⟨#[72, 77, 83]⟩ : ByteArray) x11) then (if x11 < (x10.length : Int) then ((zat.f x5 bt119.1 (rd x10 x11)).bind fun t123 => (zaa.l0 k x0 (wrap64 (bt119.2.1 + 1)) t123 true x10 (wrap64 (x11 + 1)))) else (none)) else (zaa.l0 k x0 x4 x5 x9 x10 (wrap64 (x11 + 1)))) else (none)) else (none)) else (zaa.l0 k x0 x4 x5 x9 x10 (wrap64 (x11 + 1)))) else (zaa.l0 k x0 x4 x5 x9 x10 (wrap64 (x11 + 1))))) else (if x9 = true then (zaa.j5 k x5 (x4 != (x0.size : Int))) else (zaa.j5 k x5 true))
def zaa.j5 : Nat → Int → Bool → Option (Int × Int)
 | 0, _, _ => none
 | k + 1, x5, x111 => if x111 = true then (some (0, 2)) else (if x5 > 1125899906842624 then (some (0, 3)) else (some (x5, 0)))
def zaa.j2 : Nat → ByteArray → Int → Int → Int → Bool → Option (Int × Int)
 | 0, _, _, _, _, _ => none
 | k + 1, x0, x6, x7, x38, x39 => if x39 = true then (some (0, 4)) else (if x38 = 87 then ((zat.f 0 x6 604800).bind fun t114 => (if (wrap64 (x7 + 1)) = (x0.size : Int) then (zaa.j3 k x0 (wrap64 (x7 + 1)) t114) else (some (0, 2)))) else (if x38 = 68 then ((zat.f 0 x6 86400).bind fun t115 => (zaa.j3 k x0 (wrap64 (x7 + 1)) t115)) else (some (0, 2))))
end
def zaa.f (k : Nat) (a0 : ByteArray) : Option (Int × Int) := if (a0.size : Int) < 2 then (zaa.j0 k a0 true) else (if 0 < (a0.size : Int) then (zaa.j0 k a0 ((bt a0 0) != 80)) else (none))
set_option maxHeartbeats 8000000 in
set_option maxRecDepth 100000 in
theorem zaa.calls (k : Nat) (a0 : ByteArray) (r1 : Int) (r2 : Int) (w : World) (h : zaa.f k a0 = some (r1, r2)) :
  Calls Tryz.prog 85 #[.string a0] w fun e w' => e = .returned (.tuple #[.int .u64 r1, .int .i64 r2]) ∧ Below w.heap.size w w' := by
 have HB := mk0 (Below.refl w.heap.size w)
 have H : (if (a0.size : Int) < 2 then (zaa.j0 k a0 true) else (if 0 < (a0.size : Int) then (zaa.j0 k a0 ((bt a0 0) != 80)) else (none))) = some (r1, r2) := h
 clear h
 have HC2 := mk0 H
 clear H
 go_enter Tryz.func85, Tryz.ntmps85
 go_upto_region 1 with (fail)
 repeat (go_quiet (fail); go_upto_region 1 with (fail))
 go_cut [22] (fun v22 wc => ∃ (kq : Nat) (x22_1 : Bool), v22 = .bool x22_1 ∧ Aside0 (zaa.j0 kq a0 x22_1 = some (r1, r2)) ∧ Aside0 (kq ≤ k) ∧ Aside0 (Below w.heap.size w wc))
 case first =>
  have H := HC2.out
  clear HC2
  by_cases c3 : (a0.size : Int) < 2
  ·
   rw [if_pos c3] at H
   have c3b0 : decide ((a0.size : Int) < 2) = true := decide_eq_true c3
   have c3b1 : decide (a0.size < 2) = true := decide_eq_true (by omega)
   clear c3
   (first | rw [c3b0] | (simp only [i64_w, i32_w]; rw [c3b0]) | skip)
   have H' := mk0 H
   clear H
   go_wp2
   repeat (go_quiet (fail); try go_wp2)
   go_meet
   case rel => exact ⟨_, (true), (by first | rfl | (simp; done) | (simp [*]; done)), H', ⟨by first | omega | exact Nat.le_refl _⟩, ⟨by exact bok HB.out⟩⟩
  ·
   rw [if_neg c3] at H
   have c3b0 : decide ((a0.size : Int) < 2) = false := decide_eq_false c3
   have c3b1 : decide (a0.size < 2) = false := decide_eq_false (by omega)
   clear c3
   (first | rw [c3b0] | (simp only [i64_w, i32_w]; rw [c3b0]) | skip)
   by_cases c4 : 0 < (a0.size : Int)
   ·
    rw [if_pos c4] at H
    have c4b0 : decide (0 < (a0.size : Int)) = true := decide_eq_true c4
    have c4b1 : decide (0 < a0.size) = true := decide_eq_true (by omega)
    clear c4
    have H' := mk0 H
    clear H
    have p5 : 0 ≤ (0 : Int) := (by omega)
    have q5 : 0 < a0.size := (by have : (0 : Int) < (a0.size : Int) := of_decide_eq_true (by assumption); omega)
    have hx5 : ∀ h : 0 < a0.size, ((a0[0]'h).toNat : Int) = bt a0 0 := bt_at a0 0
    clear p5
    have qi5 : (0 < (a0.size : Int)) = True := eq_true (of_decide_eq_true (by assumption))
    replace q5 := eq_true q5
    go_wp2
    repeat (go_quiet (fail); try go_wp2)
    go_meet
    case rel => exact ⟨_, (((bt a0 0) != 80)), (by first | rfl | (simp; done) | (simp [*]; done)), H', ⟨by first | omega | exact Nat.le_refl _⟩, ⟨by exact bok HB.out⟩⟩
   ·
    rw [if_neg c4] at H
    exact absurd H (by simp)
 case rest =>
  clear HC2
  obtain ⟨kq, x22_1, rfl, HA, HJ1, HB⟩ := hcut
  cases kq with
  | zero => exact absurd HA.out (by simp [zaa.j0])
  | succ kj1 =>
   have H := HA.out
   clear HA
   simp only [zaa.j0] at H
   by_cases c6 : x22_1 = true
   ·
    subst c6
    have H1 : (some (0, 2)) = some (r1, r2) := by rw [if_pos rfl] at H; exact H
    clear H
    have H := H1
    clear H1
    simp only [Option.some.injEq, Prod.mk.injEq] at H
    obtain ⟨rfl, rfl⟩ := H
    go_wp2
    repeat (go_quiet (fail); try go_wp2)
    go_ret2
    exact ⟨by first | rfl | (simp [*, zbe, zbf] <;> rfl) | (simp [zbe, zbf]; exact isEmpty_ne _), by exact bok HB.out⟩
   ·
    replace c6 := Bool.eq_false_iff.mpr c6
    subst c6
    have H1 : ((zae.f kj1 a0 1).bind fun bt111 => (if bt111.2.2 = true then (zaa.j1 kj1 a0 1 0 bt111.1 bt111.2.1 (decide (bt111.2.1 < (a0.size : Int)))) else (zaa.j1 kj1 a0 1 0 bt111.1 bt111.2.1 false))) = some (r1, r2) := by rw [if_neg (show ¬ (false = true) by decide)] at H; exact H
    clear H
    have H := H1
    clear H1
    replace H := Option.bind_eq_some_iff.mp H
    obtain ⟨⟨t111, t112, t113⟩, A70, H⟩ := H
    replace H : (if t113 = true then (zaa.j1 kj1 a0 1 0 t111 t112 (decide (t112 < (a0.size : Int)))) else (zaa.j1 kj1 a0 1 0 t111 t112 false)) = some (r1, r2) := H
    have A7 := mk0 A70
    clear A70
    have HC8 := mk0 H
    clear H
    go_upto_region 5 with (first | (go_at_call 110; (with_reducible refine (zae.calls kj1 a0 1 t111 t112 t113 _ A7.out).mono ?_); rintro e w' ⟨rfl, ⟨nd, rfl⟩⟩; (try first | exact ⟨rfl, _, World.drewN_drewN _ _ _⟩ | exact ⟨rfl, _, Eq.trans (World.drewN_drewN _ _ _) (congrArg (World.drewN _) (Nat.add_assoc _ _ _))⟩)))
    repeat (go_quiet (first | (go_at_call 110; (with_reducible refine (zae.calls kj1 a0 1 t111 t112 t113 _ A7.out).mono ?_); rintro e w' ⟨rfl, ⟨nd, rfl⟩⟩; (try first | exact ⟨rfl, _, World.drewN_drewN _ _ _⟩ | exact ⟨rfl, _, Eq.trans (World.drewN_drewN _ _ _) (congrArg (World.drewN _) (Nat.add_assoc _ _ _))⟩))); go_upto_region 5 with (first | (go_at_call 110; (with_reducible refine (zae.calls kj1 a0 1 t111 t112 t113 _ A7.out).mono ?_); rintro e w' ⟨rfl, ⟨nd, rfl⟩⟩; (try first | exact ⟨rfl, _, World.drewN_drewN _ _ _⟩ | exact ⟨rfl, _, Eq.trans (World.drewN_drewN _ _ _) (congrArg (World.drewN _) (Nat.add_assoc _ _ _))⟩))))
    (try simp only [Act.put, List.setIfInBounds_toArray, List.set_cons_zero, List.set_cons_succ])
    go_cut [35] (fun v35 wc => ∃ (kq : Nat) (x35_7 : Bool), v35 = .bool x35_7 ∧ Aside0 (zaa.j1 kq a0 1 0 t111 t112 x35_7 = some (r1, r2)) ∧ Aside0 (kq ≤ kj1) ∧ Aside0 (Below w.heap.size w wc))
    case first =>
     have H := HC8.out
     clear HC8
     by_cases c9 : t113 = true
     ·
      subst c9
      have H1 : (zaa.j1 kj1 a0 1 0 t111 t112 (decide (t112 < (a0.size : Int)))) = some (r1, r2) := by rw [if_pos rfl] at H; exact H
      clear H
      have H := H1
      clear H1
      have H' := mk0 H
      clear H
      go_wp2
      repeat (go_quiet (fail); try go_wp2)
      go_meet
      case rel => exact ⟨_, (decide (t112 < (a0.size : Int))), (by first | rfl | (simp; done) | (simp [*]; done)), H', ⟨by have := HJ1.out; first | omega | exact Nat.le_refl _⟩, ⟨by exact bok HB.out⟩⟩
     ·
      replace c9 := Bool.eq_false_iff.mpr c9
      subst c9
      have H1 : (zaa.j1 kj1 a0 1 0 t111 t112 false) = some (r1, r2) := by rw [if_neg (show ¬ (false = true) by decide)] at H; exact H
      clear H
      have H := H1
      clear H1
      have H' := mk0 H
      clear H
      go_wp2
      repeat (go_quiet (fail); try go_wp2)
      go_meet
      case rel => exact ⟨_, (false), (by first | rfl | (simp; done) | (simp [*]; done)), H', ⟨by have := HJ1.out; first | omega | exact Nat.le_refl _⟩, ⟨by exact bok HB.out⟩⟩
    case rest =>
     clear HC8
     obtain ⟨kq, x35_7, rfl, HA, HJ7, HB⟩ := hcut
     cases kq with
     | zero => exact absurd HA.out (by simp [zaa.j1])
     | succ kj7 =>
      have H := HA.out
      clear HA
      simp only [zaa.j1] at H
      have HC10 := mk0 H
      clear H
      go_upto_if 35 with (fail)
      repeat (go_quiet (fail); go_upto_if 35 with (fail))
      go_cut [4, 5] (fun v4 v5 wc => ∃ (kq : Nat) (x4_9 : Int) (x5_9 : Int), v4 = .int .i64 x4_9 ∧ v5 = .int .u64 x5_9 ∧ Aside0 (zaa.j3 kq a0 x4_9 x5_9 = some (r1, r2)) ∧ Aside0 (kq ≤ kj7) ∧ Aside0 (Below w.heap.size w wc))
      case first =>
       have H := HC10.out
       clear HC10
       by_cases c11 : x35_7 = true
       ·
        subst c11
        have H1 : (if 0 ≤ t112 then (if t112 < (a0.size : Int) then (if (bt a0 t112) = 89 then (zaa.j2 kj7 a0 t111 t112 (bt a0 t112) ((bt a0 t112) == 89)) else (zaa.j2 kj7 a0 t111 t112 (bt a0 t112) ((bt a0 t112) == 77))) else (none)) else (none)) = some (r1, r2) := by rw [if_pos rfl] at H; exact H
        clear H
        have H := H1
        clear H1
        by_cases c12 : 0 ≤ t112
        ·
         rw [if_pos c12] at H
         have c12b0 : decide (0 ≤ t112) = true := decide_eq_true c12
         clear c12
         (first | rw [c12b0] | (simp only [i64_w, i32_w]; rw [c12b0]) | skip)
         by_cases c13 : t112 < (a0.size : Int)
         ·
          rw [if_pos c13] at H
          have c13b0 : decide (t112 < (a0.size : Int)) = true := decide_eq_true c13
          clear c13
          have HC15 := mk0 H
          clear H
          have p14 : 0 ≤ (t112 : Int) := of_decide_eq_true (by assumption)
          have q14 : t112 < (a0.size : Int) := of_decide_eq_true (by assumption)
          have hx14 := bt_at a0 t112
          replace p14 := eq_true p14
          replace q14 := eq_true q14
          go_upto_if 39 with (fail)
          repeat (go_quiet (fail); go_upto_if 39 with (fail))
          go_cut [39] (fun v39 wc => ∃ (kq : Nat) (x39_14 : Bool), v39 = .bool x39_14 ∧ Aside0 (zaa.j2 kq a0 t111 t112 (bt a0 t112) x39_14 = some (r1, r2)) ∧ Aside0 (kq ≤ kj7) ∧ Aside0 (Below w.heap.size w wc))
          case first =>
           have H := HC15.out
           clear HC15
           by_cases c16 : (bt a0 t112) = 89
           ·
            rw [if_pos c16] at H
            have c16b0 : ((bt a0 t112) == 89) = true := beq_iff_eq.mpr c16
            have c16b1 : ((bt a0 t112) != 89) = false := bne_eq_false_iff_eq.mpr c16
            clear c16
            (first | rw [c16b0] | (simp only [i64_w, i32_w]; rw [c16b0]) | skip)
            have H' := mk0 H
            clear H
            go_wp2
            repeat (go_quiet (fail); try go_wp2)
            go_meet
            case rel => exact ⟨_, (((bt a0 t112) == 89)), (by first | rfl | (simp; done) | (simp [*]; done)), H', ⟨by have := HJ1.out; have := HJ7.out; first | omega | exact Nat.le_refl _⟩, ⟨by exact bok HB.out⟩⟩
           ·
            rw [if_neg c16] at H
            have c16b0 : ((bt a0 t112) == 89) = false := beq_eq_false_iff_ne.mpr c16
            have c16b1 : ((bt a0 t112) != 89) = true := bne_iff_ne.mpr c16
            (first | rw [c16b0] | (simp only [i64_w, i32_w]; rw [c16b0]) | skip)
            have H' := mk0 H
            clear H
            go_wp2
            repeat (go_quiet (fail); try go_wp2)
            go_meet
            case rel => exact ⟨_, (((bt a0 t112) == 77)), (by first | rfl | (simp; done) | (simp [*]; done)), H', ⟨by have := HJ1.out; have := HJ7.out; first | omega | exact Nat.le_refl _⟩, ⟨by exact bok HB.out⟩⟩
          case rest =>
           clear HC15
           obtain ⟨kq, x39_14, rfl, HA, HJ14, HB⟩ := hcut
           cases kq with
           | zero => exact absurd HA.out (by simp [zaa.j2])
           | succ kj14 =>
            have H := HA.out
            clear HA
            simp only [zaa.j2] at H
            by_cases c17 : x39_14 = true
            ·
             subst c17
             have H1 : (some (0, 4)) = some (r1, r2) := by rw [if_pos rfl] at H; exact H
             clear H
             have H := H1
             clear H1
             simp only [Option.some.injEq, Prod.mk.injEq] at H
             obtain ⟨rfl, rfl⟩ := H
             go_wp2
             repeat (go_quiet (fail); try go_wp2)
             go_ret2
             exact ⟨by first | rfl | (simp [*, zbe, zbf] <;> rfl) | (simp [zbe, zbf]; exact isEmpty_ne _), by exact bok HB.out⟩
            ·
             replace c17 := Bool.eq_false_iff.mpr c17
             subst c17
             have H1 : (if (bt a0 t112) = 87 then ((zat.f 0 t111 604800).bind fun t114 => (if (wrap64 (t112 + 1)) = (a0.size : Int) then (zaa.j3 kj14 a0 (wrap64 (t112 + 1)) t114) else (some (0, 2)))) else (if (bt a0 t112) = 68 then ((zat.f 0 t111 86400).bind fun t115 => (zaa.j3 kj14 a0 (wrap64 (t112 + 1)) t115)) else (some (0, 2)))) = some (r1, r2) := by rw [if_neg (show ¬ (false = true) by decide)] at H; exact H
             clear H
             have H := H1
             clear H1
             by_cases c18 : (bt a0 t112) = 87
             ·
              rw [if_pos c18] at H
              have c18b0 : ((bt a0 t112) == 87) = true := beq_iff_eq.mpr c18
              have c18b1 : ((bt a0 t112) != 87) = false := bne_eq_false_iff_eq.mpr c18
              clear c18
              replace H := Option.bind_eq_some_iff.mp H
              obtain ⟨t114, A190, H⟩ := H
              replace H : (if (wrap64 (t112 + 1)) = (a0.size : Int) then (zaa.j3 kj14 a0 (wrap64 (t112 + 1)) t114) else (some (0, 2))) = some (r1, r2) := H
              have A19 := mk0 A190
              clear A190
              by_cases c20 : (wrap64 (t112 + 1)) = (a0.size : Int)
              ·
               rw [if_pos c20] at H
               have c20b0 : ((wrap64 (t112 + 1)) == (a0.size : Int)) = true := beq_iff_eq.mpr c20
               have c20b1 : ((wrap64 (t112 + 1)) != (a0.size : Int)) = false := bne_eq_false_iff_eq.mpr c20
               clear c20
               have H' := mk0 H
               clear H
               go_wp2_with (first | (go_at_call 111; (with_reducible refine (zat.calls 0 t111 604800 t114 _ A19.out).mono ?_); rintro e w' ⟨rfl, ⟨nd, rfl⟩⟩; (try first | exact ⟨rfl, _, World.drewN_drewN _ _ _⟩ | exact ⟨rfl, _, Eq.trans (World.drewN_drewN _ _ _) (congrArg (World.drewN _) (Nat.add_assoc _ _ _))⟩)))
               repeat (go_quiet (first | (go_at_call 111; (with_reducible refine (zat.calls 0 t111 604800 t114 _ A19.out).mono ?_); rintro e w' ⟨rfl, ⟨nd, rfl⟩⟩; (try first | exact ⟨rfl, _, World.drewN_drewN _ _ _⟩ | exact ⟨rfl, _, Eq.trans (World.drewN_drewN _ _ _) (congrArg (World.drewN _) (Nat.add_assoc _ _ _))⟩))); try go_wp2_with (first | (go_at_call 111; (with_reducible refine (zat.calls 0 t111 604800 t114 _ A19.out).mono ?_); rintro e w' ⟨rfl, ⟨nd, rfl⟩⟩; (try first | exact ⟨rfl, _, World.drewN_drewN _ _ _⟩ | exact ⟨rfl, _, Eq.trans (World.drewN_drewN _ _ _) (congrArg (World.drewN _) (Nat.add_assoc _ _ _))⟩))))
               go_meet
               case rel => exact ⟨_, (wrap64 (t112 + 1)), (t114), (by first | rfl | (simp; done) | (simp [*]; done)), (by first | rfl | (simp; done) | (simp [*]; done)), H', ⟨by have := HJ1.out; have := HJ7.out; have := HJ14.out; first | omega | exact Nat.le_refl _⟩, ⟨by exact bok HB.out⟩⟩
              ·
               rw [if_neg c20] at H
               have c20b0 : ((wrap64 (t112 + 1)) == (a0.size : Int)) = false := beq_eq_false_iff_ne.mpr c20
               have c20b1 : ((wrap64 (t112 + 1)) != (a0.size : Int)) = true := bne_iff_ne.mpr c20
               simp only [Option.some.injEq, Prod.mk.injEq] at H
               obtain ⟨rfl, rfl⟩ := H
               go_wp2_with (first | (go_at_call 111; (with_reducible refine (zat.calls 0 t111 604800 t114 _ A19.out).mono ?_); rintro e w' ⟨rfl, ⟨nd, rfl⟩⟩; (try first | exact ⟨rfl, _, World.drewN_drewN _ _ _⟩ | exact ⟨rfl, _, Eq.trans (World.drewN_drewN _ _ _) (congrArg (World.drewN _) (Nat.add_assoc _ _ _))⟩)))
               repeat (go_quiet (first | (go_at_call 111; (with_reducible refine (zat.calls 0 t111 604800 t114 _ A19.out).mono ?_); rintro e w' ⟨rfl, ⟨nd, rfl⟩⟩; (try first | exact ⟨rfl, _, World.drewN_drewN _ _ _⟩ | exact ⟨rfl, _, Eq.trans (World.drewN_drewN _ _ _) (congrArg (World.drewN _) (Nat.add_assoc _ _ _))⟩))); try go_wp2_with (first | (go_at_call 111; (with_reducible refine (zat.calls 0 t111 604800 t114 _ A19.out).mono ?_); rintro e w' ⟨rfl, ⟨nd, rfl⟩⟩; (try first | exact ⟨rfl, _, World.drewN_drewN _ _ _⟩ | exact ⟨rfl, _, Eq.trans (World.drewN_drewN _ _ _) (congrArg (World.drewN _) (Nat.add_assoc _ _ _))⟩))))
               go_ret2
               exact ⟨by first | rfl | (simp [*, zbe, zbf] <;> rfl) | (simp [zbe, zbf]; exact isEmpty_ne _), by exact bok HB.out⟩
             ·
              rw [if_neg c18] at H
              have c18b0 : ((bt a0 t112) == 87) = false := beq_eq_false_iff_ne.mpr c18
              have c18b1 : ((bt a0 t112) != 87) = true := bne_iff_ne.mpr c18
              by_cases c21 : (bt a0 t112) = 68
              ·
               rw [if_pos c21] at H
               have c21b0 : ((bt a0 t112) == 68) = true := beq_iff_eq.mpr c21
               have c21b1 : ((bt a0 t112) != 68) = false := bne_eq_false_iff_eq.mpr c21
               clear c21
               replace H := Option.bind_eq_some_iff.mp H
               obtain ⟨t115, A220, H⟩ := H
               replace H : (zaa.j3 kj14 a0 (wrap64 (t112 + 1)) t115) = some (r1, r2) := H
               have A22 := mk0 A220
               clear A220
               have H' := mk0 H
               clear H
               go_wp2_with (first | (go_at_call 111; (with_reducible refine (zat.calls 0 t111 86400 t115 _ A22.out).mono ?_); rintro e w' ⟨rfl, ⟨nd, rfl⟩⟩; (try first | exact ⟨rfl, _, World.drewN_drewN _ _ _⟩ | exact ⟨rfl, _, Eq.trans (World.drewN_drewN _ _ _) (congrArg (World.drewN _) (Nat.add_assoc _ _ _))⟩)))
               repeat (go_quiet (first | (go_at_call 111; (with_reducible refine (zat.calls 0 t111 86400 t115 _ A22.out).mono ?_); rintro e w' ⟨rfl, ⟨nd, rfl⟩⟩; (try first | exact ⟨rfl, _, World.drewN_drewN _ _ _⟩ | exact ⟨rfl, _, Eq.trans (World.drewN_drewN _ _ _) (congrArg (World.drewN _) (Nat.add_assoc _ _ _))⟩))); try go_wp2_with (first | (go_at_call 111; (with_reducible refine (zat.calls 0 t111 86400 t115 _ A22.out).mono ?_); rintro e w' ⟨rfl, ⟨nd, rfl⟩⟩; (try first | exact ⟨rfl, _, World.drewN_drewN _ _ _⟩ | exact ⟨rfl, _, Eq.trans (World.drewN_drewN _ _ _) (congrArg (World.drewN _) (Nat.add_assoc _ _ _))⟩))))
               go_meet
               case rel => exact ⟨_, (wrap64 (t112 + 1)), (t115), (by first | rfl | (simp; done) | (simp [*]; done)), (by first | rfl | (simp; done) | (simp [*]; done)), H', ⟨by have := HJ1.out; have := HJ7.out; have := HJ14.out; first | omega | exact Nat.le_refl _⟩, ⟨by exact bok HB.out⟩⟩
              ·
               rw [if_neg c21] at H
               have c21b0 : ((bt a0 t112) == 68) = false := beq_eq_false_iff_ne.mpr c21
               have c21b1 : ((bt a0 t112) != 68) = true := bne_iff_ne.mpr c21
               simp only [Option.some.injEq, Prod.mk.injEq] at H
               obtain ⟨rfl, rfl⟩ := H
               go_wp2
               repeat (go_quiet (fail); try go_wp2)
               go_ret2
               exact ⟨by first | rfl | (simp [*, zbe, zbf] <;> rfl) | (simp [zbe, zbf]; exact isEmpty_ne _), by exact bok HB.out⟩
         ·
          rw [if_neg c13] at H
          exact absurd H (by simp)
        ·
         rw [if_neg c12] at H
         exact absurd H (by simp)
       ·
        replace c11 := Bool.eq_false_iff.mpr c11
        subst c11
        have H1 : (zaa.j3 kj7 a0 1 0) = some (r1, r2) := by rw [if_neg (show ¬ (false = true) by decide)] at H; exact H
        clear H
        have H := H1
        clear H1
        have H' := mk0 H
        clear H
        go_wp2
        repeat (go_quiet (fail); try go_wp2)
        go_meet
        case rel => exact ⟨_, (1), (0), (by first | rfl | (simp; done) | (simp [*]; done)), (by first | rfl | (simp; done) | (simp [*]; done)), H', ⟨by have := HJ1.out; have := HJ7.out; first | omega | exact Nat.le_refl _⟩, ⟨by exact bok HB.out⟩⟩
      case rest =>
       clear HC10
       obtain ⟨kq, x4_9, x5_9, rfl, rfl, HA, HJ9, HB⟩ := hcut
       cases kq with
       | zero => exact absurd HA.out (by simp [zaa.j3])
       | succ kj9 =>
        have H := HA.out
        clear HA
        simp only [zaa.j3] at H
        by_cases c23 : x4_9 < (a0.size : Int)
        ·
         rw [if_pos c23] at H
         have c23b0 : decide (x4_9 < (a0.size : Int)) = true := decide_eq_true c23
         clear c23
         by_cases c24 : 0 ≤ x4_9
         ·
          rw [if_pos c24] at H
          have c24b0 : decide (0 ≤ x4_9) = true := decide_eq_true c24
          clear c24
          by_cases c26 : (bt a0 x4_9) = 84
          ·
           rw [if_pos c26] at H
           have c26b0 : ((bt a0 x4_9) == 84) = true := beq_iff_eq.mpr c26
           have c26b1 : ((bt a0 x4_9) != 84) = false := bne_eq_false_iff_eq.mpr c26
           clear c26
           obtain ⟨y116, hy116⟩ : ∃ y_ : List Int, y_ = (([3600, 60, 1] : List Int)) := ⟨_, rfl⟩
           replace H : (zaa.l0 kj9 a0 (wrap64 (x4_9 + 1)) x5_9 false y116 0) = some (r1, r2) := by first | (rw [hy116]; with_reducible exact H) | (have H2_ := (Option.bind_some _ _).symm.trans H; rw [hy116]; with_reducible exact H2_) | (have H2_ := (Option.bind_some _ _).symm.trans H; with_reducible exact H2_) | with_reducible exact H | (rw [hy116]; exact H) | exact H
           have Ny116 := mk0 hy116
           clear hy116
           have H' := mk0 H
           clear H
           have p25 : 0 ≤ (x4_9 : Int) := of_decide_eq_true (by assumption)
           have q25 : x4_9 < (a0.size : Int) := of_decide_eq_true (by assumption)
           have hx25 := bt_at a0 x4_9
           replace p25 := eq_true p25
           replace q25 := eq_true q25
           go_wp2_with (first | ((with_reducible refine gate_dst (N := 68) rfl ?_); (try (refine gate_guard (by rfl) ?_; dsimp only)); refine Kd.R_lit (Kd.int .u64) _ 44 ?hg (N := 68) ?hd (xs := ([3600, 60, 1] : List Int)) (inner := [.int .u64 3600, .int .u64 60, .int .u64 1]) (ok := fun _ => True) (okp := fun _ => True) ?hr ?hp (fun _ hk => hk) trivial (Below.refl _ _) (Nat.le_refl _) (by simp) ?_; (case hd => rfl); (case hg => rfl); (case hr => first | (go_simp; done) | (go_simp; rfl)); (case hp => exact (Reps.one (show Kd.M (Kd.int .u64) _ _ _ 3600 [.int .u64 3600] from rfl) (Reps.one (show Kd.M (Kd.int .u64) _ _ _ 60 [.int .u64 60] from rfl) (Reps.one (show Kd.M (Kd.int .u64) _ _ _ 1 [.int .u64 1] from rfl) (Reps.none _ _))))); intro v117 w27 ho28 hb hg_ hnew_; clear hg_ hnew_; (first | rw [← Ny116.out] at ho28 | (simp only [Int.reduceToNat] at ho28; rw [← Ny116.out] at ho28)); have n0_ := mk0 (Kd.R_lower ho28 (below_size (by exact bok HB.out))); have n1_ := mk0 (bst HB.out hb); clear HB; have HO118 := n0_; have HB := n1_; clear n0_ n1_; clear hb ho28))
           repeat (go_quiet (first | ((with_reducible refine gate_dst (N := 68) rfl ?_); (try (refine gate_guard (by rfl) ?_; dsimp only)); refine Kd.R_lit (Kd.int .u64) _ 44 ?hg (N := 68) ?hd (xs := ([3600, 60, 1] : List Int)) (inner := [.int .u64 3600, .int .u64 60, .int .u64 1]) (ok := fun _ => True) (okp := fun _ => True) ?hr ?hp (fun _ hk => hk) trivial (Below.refl _ _) (Nat.le_refl _) (by simp) ?_; (case hd => rfl); (case hg => rfl); (case hr => first | (go_simp; done) | (go_simp; rfl)); (case hp => exact (Reps.one (show Kd.M (Kd.int .u64) _ _ _ 3600 [.int .u64 3600] from rfl) (Reps.one (show Kd.M (Kd.int .u64) _ _ _ 60 [.int .u64 60] from rfl) (Reps.one (show Kd.M (Kd.int .u64) _ _ _ 1 [.int .u64 1] from rfl) (Reps.none _ _))))); intro v117 w27 ho28 hb hg_ hnew_; clear hg_ hnew_; (first | rw [← Ny116.out] at ho28 | (simp only [Int.reduceToNat] at ho28; rw [← Ny116.out] at ho28)); have n0_ := mk0 (Kd.R_lower ho28 (below_size (by exact bok HB.out))); have n1_ := mk0 (bst HB.out hb); clear HB; have HO118 := n0_; have HB := n1_; clear n0_ n1_; clear hb ho28)); try go_wp2_with (first | ((with_reducible refine gate_dst (N := 68) rfl ?_); (try (refine gate_guard (by rfl) ?_; dsimp only)); refine Kd.R_lit (Kd.int .u64) _ 44 ?hg (N := 68) ?hd (xs := ([3600, 60, 1] : List Int)) (inner := [.int .u64 3600, .int .u64 60, .int .u64 1]) (ok := fun _ => True) (okp := fun _ => True) ?hr ?hp (fun _ hk => hk) trivial (Below.refl _ _) (Nat.le_refl _) (by simp) ?_; (case hd => rfl); (case hg => rfl); (case hr => first | (go_simp; done) | (go_simp; rfl)); (case hp => exact (Reps.one (show Kd.M (Kd.int .u64) _ _ _ 3600 [.int .u64 3600] from rfl) (Reps.one (show Kd.M (Kd.int .u64) _ _ _ 60 [.int .u64 60] from rfl) (Reps.one (show Kd.M (Kd.int .u64) _ _ _ 1 [.int .u64 1] from rfl) (Reps.none _ _))))); intro v117 w27 ho28 hb hg_ hnew_; clear hg_ hnew_; (first | rw [← Ny116.out] at ho28 | (simp only [Int.reduceToNat] at ho28; rw [← Ny116.out] at ho28)); have n0_ := mk0 (Kd.R_lower ho28 (below_size (by exact bok HB.out))); have n1_ := mk0 (bst HB.out hb); clear HB; have HO118 := n0_; have HB := n1_; clear n0_ n1_; clear hb ho28)))
           go_loopg [4, 5, 9, 11] kj9 (fun kq v4 v5 v9 v11 w' => ∃ (x4_4 : Int) (x5_4 : Int) (x9_4 : Bool) (x11_4 : Int), v4 = .int .i64 x4_4 ∧ v5 = .int .u64 x5_4 ∧ v9 = .bool x9_4 ∧ v11 = .int .i64 x11_4 ∧ Aside0 (zaa.l0 kq a0 x4_4 x5_4 x9_4 y116 x11_4 = some (r1, r2)) ∧ Aside0 (kq ≤ kj9) ∧ Aside0 (Kd.R (Kd.int .u64) 44 w' w.heap.size (fun _ => True) v117 y116) ∧ Aside0 (Below w.heap.size w w'))
           case atStart => exact ⟨(wrap64 (x4_9 + 1)), (x5_9), (false), (0), (by first | rfl | (simp; done) | (simp [*]; done)), (by first | rfl | (simp; done) | (simp [*]; done)), (by first | rfl | (simp; done) | (simp [*]; done)), (by first | rfl | (simp; done) | (simp [*]; done)), H', ⟨Nat.le_refl _⟩, ⟨by exact rok HO118.out⟩, ⟨by exact bok HB.out⟩⟩
           case round =>
            clear H'
            obtain ⟨x4_4, x5_4, x9_4, x11_4, rfl, rfl, rfl, rfl, HA, HK4, HO_10, HB⟩ := hrel
            cases gk with
            | zero => exact absurd HA.out (by simp [zaa.l0])
            | succ k4 =>
             have H := HA.out
             clear HA
             simp only [zaa.l0] at H
             by_cases c29 : x11_4 < 3
             ·
              rw [if_pos c29] at H
              have c29b0 : decide (x11_4 < 3) = true := decide_eq_true c29
              clear c29
              replace H := Option.bind_eq_some_iff.mp H
              obtain ⟨⟨t119, t120, t121⟩, A300, H⟩ := H
              replace H : (if t121 = true then (if t120 < (a0.size : Int) then (if 0 ≤ t120 then (if 0 ≤ x11_4 then (if (bt a0 t120) = (bt (⟨#[72, 77, 83]⟩ : ByteArray) x11_4) then (if x11_4 < (y116.length : Int) then ((zat.f x5_4 t119 (rd y116 x11_4)).bind fun t123 => (zaa.l0 k4 a0 (wrap64 (t120 + 1)) t123 true y116 (wrap64 (x11_4 + 1)))) else (none)) else (zaa.l0 k4 a0 x4_4 x5_4 x9_4 y116 (wrap64 (x11_4 + 1)))) else (none)) else (none)) else (zaa.l0 k4 a0 x4_4 x5_4 x9_4 y116 (wrap64 (x11_4 + 1)))) else (zaa.l0 k4 a0 x4_4 x5_4 x9_4 y116 (wrap64 (x11_4 + 1)))) = some (r1, r2) := H
              have A30 := mk0 A300
              clear A300
              by_cases c31 : t121 = true
              ·
               subst c31
               have H1 : (if t120 < (a0.size : Int) then (if 0 ≤ t120 then (if 0 ≤ x11_4 then (if (bt a0 t120) = (bt (⟨#[72, 77, 83]⟩ : ByteArray) x11_4) then (if x11_4 < (y116.length : Int) then ((zat.f x5_4 t119 (rd y116 x11_4)).bind fun t123 => (zaa.l0 k4 a0 (wrap64 (t120 + 1)) t123 true y116 (wrap64 (x11_4 + 1)))) else (none)) else (zaa.l0 k4 a0 x4_4 x5_4 x9_4 y116 (wrap64 (x11_4 + 1)))) else (none)) else (none)) else (zaa.l0 k4 a0 x4_4 x5_4 x9_4 y116 (wrap64 (x11_4 + 1)))) = some (r1, r2) := by rw [if_pos rfl] at H; exact H
               clear H
               have H := H1
               clear H1
               by_cases c32 : t120 < (a0.size : Int)
               ·
                rw [if_pos c32] at H
                have c32b0 : decide (t120 < (a0.size : Int)) = true := decide_eq_true c32
                clear c32
                by_cases c33 : 0 ≤ t120
                ·
                 rw [if_pos c33] at H
                 have c33b0 : decide (0 ≤ t120) = true := decide_eq_true c33
                 clear c33
                 by_cases c35 : 0 ≤ x11_4
                 ·
                  rw [if_pos c35] at H
                  have c35b0 : decide (0 ≤ x11_4) = true := decide_eq_true c35
                  clear c35
                  by_cases c37 : (bt a0 t120) = (bt (⟨#[72, 77, 83]⟩ : ByteArray) x11_4)
                  ·
                   rw [if_pos c37] at H
                   have c37b0 : ((bt a0 t120) == (bt (⟨#[72, 77, 83]⟩ : ByteArray) x11_4)) = true := beq_iff_eq.mpr c37
                   have c37b1 : ((bt a0 t120) != (bt (⟨#[72, 77, 83]⟩ : ByteArray) x11_4)) = false := bne_eq_false_iff_eq.mpr c37
                   clear c37
                   by_cases c38 : x11_4 < (y116.length : Int)
                   ·
                    rw [if_pos c38] at H
                    have c38b0 : decide (x11_4 < (y116.length : Int)) = true := decide_eq_true c38
                    clear c38
                    replace H := Option.bind_eq_some_iff.mp H
                    obtain ⟨t123, A390, H⟩ := H
                    replace H : (zaa.l0 k4 a0 (wrap64 (t120 + 1)) t123 true y116 (wrap64 (x11_4 + 1))) = some (r1, r2) := H
                    have A39 := mk0 A390
                    clear A390
                    have H' := mk0 H
                    clear H
                    go_wp2_with (first | (go_at_call 110; (with_reducible refine (zae.calls k4 a0 x4_4 t119 t120 true _ A30.out).mono ?_); rintro e w' ⟨rfl, ⟨nd, rfl⟩⟩; (try first | exact ⟨rfl, _, World.drewN_drewN _ _ _⟩ | exact ⟨rfl, _, Eq.trans (World.drewN_drewN _ _ _) (congrArg (World.drewN _) (Nat.add_assoc _ _ _))⟩); have p34 : 0 ≤ (t120 : Int) := of_decide_eq_true (by assumption); have q34 : t120 < (a0.size : Int) := of_decide_eq_true (by assumption); have hx34 := bt_at a0 t120; replace p34 := eq_true p34; replace q34 := eq_true q34; have p36 : 0 ≤ (x11_4 : Int) := of_decide_eq_true (by assumption); have q36 : x11_4 < (3 : Int) := of_decide_eq_true (by assumption); have hx36 := bt_at (⟨#[72, 77, 83]⟩ : ByteArray) x11_4; replace p36 := eq_true p36; replace q36 := eq_true q36; obtain ⟨Ao40, co40, eo40⟩ := Kd.R_slice HO_10.out; subst eo40; have p122 : 0 ≤ (x11_4 : Int) := of_decide_eq_true (by assumption); have q122 : x11_4 < (y116.length : Int) := of_decide_eq_true (by assumption); obtain ⟨ad122, e122, hx122_0⟩ := Kd.at_int (Kd.R_reads' HO_10.out).2.2 x11_4 p122 q122; cases e122; replace p122 := eq_true p122; replace q122 := eq_true q122) | (go_at_call 111; (with_reducible refine (zat.calls x5_4 t119 (rd y116 x11_4) t123 _ A39.out).mono ?_); rintro e w' ⟨rfl, ⟨nd, rfl⟩⟩; (try first | exact ⟨rfl, _, World.drewN_drewN _ _ _⟩ | exact ⟨rfl, _, Eq.trans (World.drewN_drewN _ _ _) (congrArg (World.drewN _) (Nat.add_assoc _ _ _))⟩)))
                    repeat (go_quiet (first | (go_at_call 110; (with_reducible refine (zae.calls k4 a0 x4_4 t119 t120 true _ A30.out).mono ?_); rintro e w' ⟨rfl, ⟨nd, rfl⟩⟩; (try first | exact ⟨rfl, _, World.drewN_drewN _ _ _⟩ | exact ⟨rfl, _, Eq.trans (World.drewN_drewN _ _ _) (congrArg (World.drewN _) (Nat.add_assoc _ _ _))⟩); have p34 : 0 ≤ (t120 : Int) := of_decide_eq_true (by assumption); have q34 : t120 < (a0.size : Int) := of_decide_eq_true (by assumption); have hx34 := bt_at a0 t120; replace p34 := eq_true p34; replace q34 := eq_true q34; have p36 : 0 ≤ (x11_4 : Int) := of_decide_eq_true (by assumption); have q36 : x11_4 < (3 : Int) := of_decide_eq_true (by assumption); have hx36 := bt_at (⟨#[72, 77, 83]⟩ : ByteArray) x11_4; replace p36 := eq_true p36; replace q36 := eq_true q36; obtain ⟨Ao40, co40, eo40⟩ := Kd.R_slice HO_10.out; subst eo40; have p122 : 0 ≤ (x11_4 : Int) := of_decide_eq_true (by assumption); have q122 : x11_4 < (y116.length : Int) := of_decide_eq_true (by assumption); obtain ⟨ad122, e122, hx122_0⟩ := Kd.at_int (Kd.R_reads' HO_10.out).2.2 x11_4 p122 q122; cases e122; replace p122 := eq_true p122; replace q122 := eq_true q122) | (go_at_call 111; (with_reducible refine (zat.calls x5_4 t119 (rd y116 x11_4) t123 _ A39.out).mono ?_); rintro e w' ⟨rfl, ⟨nd, rfl⟩⟩; (try first | exact ⟨rfl, _, World.drewN_drewN _ _ _⟩ | exact ⟨rfl, _, Eq.trans (World.drewN_drewN _ _ _) (congrArg (World.drewN _) (Nat.add_assoc _ _ _))⟩))); try go_wp2_with (first | (go_at_call 110; (with_reducible refine (zae.calls k4 a0 x4_4 t119 t120 true _ A30.out).mono ?_); rintro e w' ⟨rfl, ⟨nd, rfl⟩⟩; (try first | exact ⟨rfl, _, World.drewN_drewN _ _ _⟩ | exact ⟨rfl, _, Eq.trans (World.drewN_drewN _ _ _) (congrArg (World.drewN _) (Nat.add_assoc _ _ _))⟩); have p34 : 0 ≤ (t120 : Int) := of_decide_eq_true (by assumption); have q34 : t120 < (a0.size : Int) := of_decide_eq_true (by assumption); have hx34 := bt_at a0 t120; replace p34 := eq_true p34; replace q34 := eq_true q34; have p36 : 0 ≤ (x11_4 : Int) := of_decide_eq_true (by assumption); have q36 : x11_4 < (3 : Int) := of_decide_eq_true (by assumption); have hx36 := bt_at (⟨#[72, 77, 83]⟩ : ByteArray) x11_4; replace p36 := eq_true p36; replace q36 := eq_true q36; obtain ⟨Ao40, co40, eo40⟩ := Kd.R_slice HO_10.out; subst eo40; have p122 : 0 ≤ (x11_4 : Int) := of_decide_eq_true (by assumption); have q122 : x11_4 < (y116.length : Int) := of_decide_eq_true (by assumption); obtain ⟨ad122, e122, hx122_0⟩ := Kd.at_int (Kd.R_reads' HO_10.out).2.2 x11_4 p122 q122; cases e122; replace p122 := eq_true p122; replace q122 := eq_true q122) | (go_at_call 111; (with_reducible refine (zat.calls x5_4 t119 (rd y116 x11_4) t123 _ A39.out).mono ?_); rintro e w' ⟨rfl, ⟨nd, rfl⟩⟩; (try first | exact ⟨rfl, _, World.drewN_drewN _ _ _⟩ | exact ⟨rfl, _, Eq.trans (World.drewN_drewN _ _ _) (congrArg (World.drewN _) (Nat.add_assoc _ _ _))⟩))))
                    go_roundg k4
                    case measure => have := HJ1.out; have := HJ7.out; have := HJ9.out; have := HK4.out; omega
                    case rel => exact ⟨(wrap64 (t120 + 1)), (t123), (true), (wrap64 (x11_4 + 1)), (by first | rfl | (simp; done) | (simp [*]; done)), (by first | rfl | (simp; done) | (simp [*]; done)), (by first | rfl | (simp; done) | (simp [*]; done)), (by first | rfl | (simp; done) | (simp [*]; done)), H', ⟨by have := HJ1.out; have := HJ7.out; have := HJ9.out; have := HK4.out; omega⟩, ⟨by exact rok HO_10.out⟩, ⟨by exact bok HB.out⟩⟩
                   ·
                    rw [if_neg c38] at H
                    exact absurd H (by simp)
                  ·
                   rw [if_neg c37] at H
                   have c37b0 : ((bt a0 t120) == (bt (⟨#[72, 77, 83]⟩ : ByteArray) x11_4)) = false := beq_eq_false_iff_ne.mpr c37
                   have c37b1 : ((bt a0 t120) != (bt (⟨#[72, 77, 83]⟩ : ByteArray) x11_4)) = true := bne_iff_ne.mpr c37
                   have H' := mk0 H
                   clear H
                   go_wp2_with (first | (go_at_call 110; (with_reducible refine (zae.calls k4 a0 x4_4 t119 t120 true _ A30.out).mono ?_); rintro e w' ⟨rfl, ⟨nd, rfl⟩⟩; (try first | exact ⟨rfl, _, World.drewN_drewN _ _ _⟩ | exact ⟨rfl, _, Eq.trans (World.drewN_drewN _ _ _) (congrArg (World.drewN _) (Nat.add_assoc _ _ _))⟩); have p34 : 0 ≤ (t120 : Int) := of_decide_eq_true (by assumption); have q34 : t120 < (a0.size : Int) := of_decide_eq_true (by assumption); have hx34 := bt_at a0 t120; replace p34 := eq_true p34; replace q34 := eq_true q34; have p36 : 0 ≤ (x11_4 : Int) := of_decide_eq_true (by assumption); have q36 : x11_4 < (3 : Int) := of_decide_eq_true (by assumption); have hx36 := bt_at (⟨#[72, 77, 83]⟩ : ByteArray) x11_4; replace p36 := eq_true p36; replace q36 := eq_true q36))
                   repeat (go_quiet (first | (go_at_call 110; (with_reducible refine (zae.calls k4 a0 x4_4 t119 t120 true _ A30.out).mono ?_); rintro e w' ⟨rfl, ⟨nd, rfl⟩⟩; (try first | exact ⟨rfl, _, World.drewN_drewN _ _ _⟩ | exact ⟨rfl, _, Eq.trans (World.drewN_drewN _ _ _) (congrArg (World.drewN _) (Nat.add_assoc _ _ _))⟩); have p34 : 0 ≤ (t120 : Int) := of_decide_eq_true (by assumption); have q34 : t120 < (a0.size : Int) := of_decide_eq_true (by assumption); have hx34 := bt_at a0 t120; replace p34 := eq_true p34; replace q34 := eq_true q34; have p36 : 0 ≤ (x11_4 : Int) := of_decide_eq_true (by assumption); have q36 : x11_4 < (3 : Int) := of_decide_eq_true (by assumption); have hx36 := bt_at (⟨#[72, 77, 83]⟩ : ByteArray) x11_4; replace p36 := eq_true p36; replace q36 := eq_true q36)); try go_wp2_with (first | (go_at_call 110; (with_reducible refine (zae.calls k4 a0 x4_4 t119 t120 true _ A30.out).mono ?_); rintro e w' ⟨rfl, ⟨nd, rfl⟩⟩; (try first | exact ⟨rfl, _, World.drewN_drewN _ _ _⟩ | exact ⟨rfl, _, Eq.trans (World.drewN_drewN _ _ _) (congrArg (World.drewN _) (Nat.add_assoc _ _ _))⟩); have p34 : 0 ≤ (t120 : Int) := of_decide_eq_true (by assumption); have q34 : t120 < (a0.size : Int) := of_decide_eq_true (by assumption); have hx34 := bt_at a0 t120; replace p34 := eq_true p34; replace q34 := eq_true q34; have p36 : 0 ≤ (x11_4 : Int) := of_decide_eq_true (by assumption); have q36 : x11_4 < (3 : Int) := of_decide_eq_true (by assumption); have hx36 := bt_at (⟨#[72, 77, 83]⟩ : ByteArray) x11_4; replace p36 := eq_true p36; replace q36 := eq_true q36)))
                   go_roundg k4
                   case measure => have := HJ1.out; have := HJ7.out; have := HJ9.out; have := HK4.out; omega
                   case rel => exact ⟨(x4_4), (x5_4), (x9_4), (wrap64 (x11_4 + 1)), (by first | rfl | (simp; done) | (simp [*]; done)), (by first | rfl | (simp; done) | (simp [*]; done)), (by first | rfl | (simp; done) | (simp [*]; done)), (by first | rfl | (simp; done) | (simp [*]; done)), H', ⟨by have := HJ1.out; have := HJ7.out; have := HJ9.out; have := HK4.out; omega⟩, ⟨by exact rok HO_10.out⟩, ⟨by exact bok HB.out⟩⟩
                 ·
                  rw [if_neg c35] at H
                  exact absurd H (by simp)
                ·
                 rw [if_neg c33] at H
                 exact absurd H (by simp)
               ·
                rw [if_neg c32] at H
                have c32b0 : decide (t120 < (a0.size : Int)) = false := decide_eq_false c32
                clear c32
                have H' := mk0 H
                clear H
                go_wp2_with (first | (go_at_call 110; (with_reducible refine (zae.calls k4 a0 x4_4 t119 t120 true _ A30.out).mono ?_); rintro e w' ⟨rfl, ⟨nd, rfl⟩⟩; (try first | exact ⟨rfl, _, World.drewN_drewN _ _ _⟩ | exact ⟨rfl, _, Eq.trans (World.drewN_drewN _ _ _) (congrArg (World.drewN _) (Nat.add_assoc _ _ _))⟩)))
                repeat (go_quiet (first | (go_at_call 110; (with_reducible refine (zae.calls k4 a0 x4_4 t119 t120 true _ A30.out).mono ?_); rintro e w' ⟨rfl, ⟨nd, rfl⟩⟩; (try first | exact ⟨rfl, _, World.drewN_drewN _ _ _⟩ | exact ⟨rfl, _, Eq.trans (World.drewN_drewN _ _ _) (congrArg (World.drewN _) (Nat.add_assoc _ _ _))⟩))); try go_wp2_with (first | (go_at_call 110; (with_reducible refine (zae.calls k4 a0 x4_4 t119 t120 true _ A30.out).mono ?_); rintro e w' ⟨rfl, ⟨nd, rfl⟩⟩; (try first | exact ⟨rfl, _, World.drewN_drewN _ _ _⟩ | exact ⟨rfl, _, Eq.trans (World.drewN_drewN _ _ _) (congrArg (World.drewN _) (Nat.add_assoc _ _ _))⟩))))
                go_roundg k4
                case measure => have := HJ1.out; have := HJ7.out; have := HJ9.out; have := HK4.out; omega
                case rel => exact ⟨(x4_4), (x5_4), (x9_4), (wrap64 (x11_4 + 1)), (by first | rfl | (simp; done) | (simp [*]; done)), (by first | rfl | (simp; done) | (simp [*]; done)), (by first | rfl | (simp; done) | (simp [*]; done)), (by first | rfl | (simp; done) | (simp [*]; done)), H', ⟨by have := HJ1.out; have := HJ7.out; have := HJ9.out; have := HK4.out; omega⟩, ⟨by exact rok HO_10.out⟩, ⟨by exact bok HB.out⟩⟩
              ·
               replace c31 := Bool.eq_false_iff.mpr c31
               subst c31
               have H1 : (zaa.l0 k4 a0 x4_4 x5_4 x9_4 y116 (wrap64 (x11_4 + 1))) = some (r1, r2) := by rw [if_neg (show ¬ (false = true) by decide)] at H; exact H
               clear H
               have H := H1
               clear H1
               have H' := mk0 H
               clear H
               go_wp2_with (first | (go_at_call 110; (with_reducible refine (zae.calls k4 a0 x4_4 t119 t120 false _ A30.out).mono ?_); rintro e w' ⟨rfl, ⟨nd, rfl⟩⟩; (try first | exact ⟨rfl, _, World.drewN_drewN _ _ _⟩ | exact ⟨rfl, _, Eq.trans (World.drewN_drewN _ _ _) (congrArg (World.drewN _) (Nat.add_assoc _ _ _))⟩)))
               repeat (go_quiet (first | (go_at_call 110; (with_reducible refine (zae.calls k4 a0 x4_4 t119 t120 false _ A30.out).mono ?_); rintro e w' ⟨rfl, ⟨nd, rfl⟩⟩; (try first | exact ⟨rfl, _, World.drewN_drewN _ _ _⟩ | exact ⟨rfl, _, Eq.trans (World.drewN_drewN _ _ _) (congrArg (World.drewN _) (Nat.add_assoc _ _ _))⟩))); try go_wp2_with (first | (go_at_call 110; (with_reducible refine (zae.calls k4 a0 x4_4 t119 t120 false _ A30.out).mono ?_); rintro e w' ⟨rfl, ⟨nd, rfl⟩⟩; (try first | exact ⟨rfl, _, World.drewN_drewN _ _ _⟩ | exact ⟨rfl, _, Eq.trans (World.drewN_drewN _ _ _) (congrArg (World.drewN _) (Nat.add_assoc _ _ _))⟩))))
               go_roundg k4
               case measure => have := HJ1.out; have := HJ7.out; have := HJ9.out; have := HK4.out; omega
               case rel => exact ⟨(x4_4), (x5_4), (x9_4), (wrap64 (x11_4 + 1)), (by first | rfl | (simp; done) | (simp [*]; done)), (by first | rfl | (simp; done) | (simp [*]; done)), (by first | rfl | (simp; done) | (simp [*]; done)), (by first | rfl | (simp; done) | (simp [*]; done)), H', ⟨by have := HJ1.out; have := HJ7.out; have := HJ9.out; have := HK4.out; omega⟩, ⟨by exact rok HO_10.out⟩, ⟨by exact bok HB.out⟩⟩
             ·
              rw [if_neg c29] at H
              have c29b0 : decide (x11_4 < 3) = false := decide_eq_false c29
              clear c29
              have HC41 := mk0 H
              clear H
              go_upto_region 29 with (fail)
              repeat (go_quiet (fail); go_upto_region 29 with (fail))
              go_cut [111] (fun v111 wc => ∃ (kq : Nat) (x111_40 : Bool), v111 = .bool x111_40 ∧ Aside0 (zaa.j5 kq x5_4 x111_40 = some (r1, r2)) ∧ Aside0 (kq ≤ k4) ∧ Aside0 (Below w.heap.size w wc))
              case first =>
               have H := HC41.out
               clear HC41
               by_cases c42 : x9_4 = true
               ·
                subst c42
                have H1 : (zaa.j5 k4 x5_4 (x4_4 != (a0.size : Int))) = some (r1, r2) := by rw [if_pos rfl] at H; exact H
                clear H
                have H := H1
                clear H1
                have H' := mk0 H
                clear H
                go_wp2
                repeat (go_quiet (fail); try go_wp2)
                go_meet
                case rel => exact ⟨_, ((x4_4 != (a0.size : Int))), (by first | rfl | (simp; done) | (simp [*]; done)), H', ⟨by have := HJ1.out; have := HJ7.out; have := HJ9.out; have := HK4.out; first | omega | exact Nat.le_refl _⟩, ⟨by exact bok HB.out⟩⟩
               ·
                replace c42 := Bool.eq_false_iff.mpr c42
                subst c42
                have H1 : (zaa.j5 k4 x5_4 true) = some (r1, r2) := by rw [if_neg (show ¬ (false = true) by decide)] at H; exact H
                clear H
                have H := H1
                clear H1
                have H' := mk0 H
                clear H
                go_wp2
                repeat (go_quiet (fail); try go_wp2)
                go_meet
                case rel => exact ⟨_, (true), (by first | rfl | (simp; done) | (simp [*]; done)), H', ⟨by have := HJ1.out; have := HJ7.out; have := HJ9.out; have := HK4.out; first | omega | exact Nat.le_refl _⟩, ⟨by exact bok HB.out⟩⟩
              case rest =>
               clear HC41
               obtain ⟨kq, x111_40, rfl, HA, HJ40, HB⟩ := hcut
               cases kq with
               | zero => exact absurd HA.out (by simp [zaa.j5])
               | succ kj40 =>
                have H := HA.out
                clear HA
                simp only [zaa.j5] at H
                by_cases c43 : x111_40 = true
                ·
                 subst c43
                 have H1 : (some (0, 2)) = some (r1, r2) := by rw [if_pos rfl] at H; exact H
                 clear H
                 have H := H1
                 clear H1
                 simp only [Option.some.injEq, Prod.mk.injEq] at H
                 obtain ⟨rfl, rfl⟩ := H
                 go_wp2
                 repeat (go_quiet (fail); try go_wp2)
                 go_ret2
                 exact ⟨by first | rfl | (simp [*, zbe, zbf] <;> rfl) | (simp [zbe, zbf]; exact isEmpty_ne _), by exact bok HB.out⟩
                ·
                 replace c43 := Bool.eq_false_iff.mpr c43
                 subst c43
                 have H1 : (if x5_4 > 1125899906842624 then (some (0, 3)) else (some (x5_4, 0))) = some (r1, r2) := by rw [if_neg (show ¬ (false = true) by decide)] at H; exact H
                 clear H
                 have H := H1
                 clear H1
                 by_cases c44 : x5_4 > 1125899906842624
                 ·
                  rw [if_pos c44] at H
                  have c44b0 : decide (1125899906842624 < x5_4) = true := decide_eq_true c44
                  clear c44
                  simp only [Option.some.injEq, Prod.mk.injEq] at H
                  obtain ⟨rfl, rfl⟩ := H
                  go_wp2
                  repeat (go_quiet (fail); try go_wp2)
                  go_ret2
                  exact ⟨by first | rfl | (simp [*, zbe, zbf] <;> rfl) | (simp [zbe, zbf]; exact isEmpty_ne _), by exact bok HB.out⟩
                 ·
                  rw [if_neg c44] at H
                  have c44b0 : decide (1125899906842624 < x5_4) = false := decide_eq_false c44
                  clear c44
                  simp only [Option.some.injEq, Prod.mk.injEq] at H
                  obtain ⟨rfl, rfl⟩ := H
                  go_wp2
                  repeat (go_quiet (fail); try go_wp2)
                  go_ret2
                  exact ⟨by first | rfl | (simp [*, zbe, zbf] <;> rfl) | (simp [zbe, zbf]; exact isEmpty_ne _), by exact bok HB.out⟩
          ·
           rw [if_neg c26] at H
           have c26b0 : ((bt a0 x4_9) == 84) = false := beq_eq_false_iff_ne.mpr c26
           have c26b1 : ((bt a0 x4_9) != 84) = true := bne_iff_ne.mpr c26
           simp only [Option.some.injEq, Prod.mk.injEq] at H
           obtain ⟨rfl, rfl⟩ := H
           have p25 : 0 ≤ (x4_9 : Int) := of_decide_eq_true (by assumption)
           have q25 : x4_9 < (a0.size : Int) := of_decide_eq_true (by assumption)
           have hx25 := bt_at a0 x4_9
           replace p25 := eq_true p25
           replace q25 := eq_true q25
           go_wp2
           repeat (go_quiet (fail); try go_wp2)
           go_ret2
           exact ⟨by first | rfl | (simp [*, zbe, zbf] <;> rfl) | (simp [zbe, zbf]; exact isEmpty_ne _), by exact bok HB.out⟩
         ·
          rw [if_neg c24] at H
          exact absurd H (by simp)
        ·
         rw [if_neg c23] at H
         have c23b0 : decide (x4_9 < (a0.size : Int)) = false := decide_eq_false c23
         clear c23
         by_cases c45 : x5_9 > 1125899906842624
         ·
          rw [if_pos c45] at H
          have c45b0 : decide (1125899906842624 < x5_9) = true := decide_eq_true c45
          clear c45
          simp only [Option.some.injEq, Prod.mk.injEq] at H
          obtain ⟨rfl, rfl⟩ := H
          go_wp2
          repeat (go_quiet (fail); try go_wp2)
          go_ret2
          exact ⟨by first | rfl | (simp [*, zbe, zbf] <;> rfl) | (simp [zbe, zbf]; exact isEmpty_ne _), by exact bok HB.out⟩
         ·
          rw [if_neg c45] at H
          have c45b0 : decide (1125899906842624 < x5_9) = false := decide_eq_false c45
          clear c45
          simp only [Option.some.injEq, Prod.mk.injEq] at H
          obtain ⟨rfl, rfl⟩ := H
          go_wp2
          repeat (go_quiet (fail); try go_wp2)
          go_ret2
          exact ⟨by first | rfl | (simp [*, zbe, zbf] <;> rfl) | (simp [zbe, zbf]; exact isEmpty_ne _), by exact bok HB.out⟩

end Go.Proofs.YtcaegaljhogbjaaGreatDoor.Q
