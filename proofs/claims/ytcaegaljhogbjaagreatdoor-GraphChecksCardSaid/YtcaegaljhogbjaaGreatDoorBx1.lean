/- What Go functions compute, as plain Lean functions, and that the machine comes to just that: written by wip/tools/printx.py (my run of the printer, with contracts of mine beside it). -/
import Derived.Test.YtcaegaljhogbjaaGreatDoorOn
import Derived.Test.YtcaegaljhogbjaaGreatDoorBx0
set_option maxHeartbeats 8000000
set_option maxRecDepth 100000
namespace Go.Proofs.YtcaegaljhogbjaaGreatDoor.B
open Go.Proofs.YtcaegaljhogbjaaGreatDoor.Ext Go.RowKit Go.Proofs.YtcaegaljhogbjaaGreatDoorW.PrintWords Go.Proofs.YtcaegaljhogbjaaGreatDoorW.PrintLast Go.Proofs.YtcaegaljhogbjaaGreatDoorW.PrintMore
attribute [local go_sem] max2_int min2_int max_two min_two max_three min_three max_four min_four   -- for this text's walks alone
set_option linter.unusedVariables false
set_option linter.unusedSimpArgs false


/-! ### zbz: function 75 -/
def zbz.l0 : Nat → ByteArray → Int → Option (Int × Int × ByteArray)
 | 0, _, _ => none
 | k + 1, x0, x5 => if x5 < (x0.size : Int) then (if 0 ≤ x5 then (if (bt x0 x5) ≥ 48 then (if (bt x0 x5) ≤ 57 then (zbz.l0 k x0 (wrap64 (x5 + 1))) else (if x5 < 1 then (some (0, 0, (⟨#[]⟩ : ByteArray))) else (if x5 > 15 then (some (0, 0, (⟨#[]⟩ : ByteArray))) else (if x5 = (x0.size : Int) then (some (0, 0, (⟨#[]⟩ : ByteArray))) else (if 0 < (x0.size : Int) then (if (bt x0 0) = 48 then (if x5 > 1 then (some (0, 0, (⟨#[]⟩ : ByteArray))) else (if x5 ≤ (x0.size : Int) then ((strconv_ParseUint.f (x0.extract 0 (x5 : Int).toNat) 10 64).bind fun bt101 => (if 0 ≤ (wrap64 (x5 + 1)) then (if (wrap64 (x5 + 1)) ≤ (x0.size : Int) then (some (bt101.1, bt x0 x5, x0.extract ((wrap64 (x5 + 1)) : Int).toNat x0.size)) else (none)) else (none))) else (none))) else (if x5 ≤ (x0.size : Int) then ((strconv_ParseUint.f (x0.extract 0 (x5 : Int).toNat) 10 64).bind fun bt103 => (if 0 ≤ (wrap64 (x5 + 1)) then (if (wrap64 (x5 + 1)) ≤ (x0.size : Int) then (some (bt103.1, bt x0 x5, x0.extract ((wrap64 (x5 + 1)) : Int).toNat x0.size)) else (none)) else (none))) else (none))) else (none)))))) else (if x5 < 1 then (some (0, 0, (⟨#[]⟩ : ByteArray))) else (if x5 > 15 then (some (0, 0, (⟨#[]⟩ : ByteArray))) else (if x5 = (x0.size : Int) then (some (0, 0, (⟨#[]⟩ : ByteArray))) else (if 0 < (x0.size : Int) then (if (bt x0 0) = 48 then (if x5 > 1 then (some (0, 0, (⟨#[]⟩ : ByteArray))) else (if x5 ≤ (x0.size : Int) then ((strconv_ParseUint.f (x0.extract 0 (x5 : Int).toNat) 10 64).bind fun bt105 => (if 0 ≤ (wrap64 (x5 + 1)) then (if (wrap64 (x5 + 1)) ≤ (x0.size : Int) then (some (bt105.1, bt x0 x5, x0.extract ((wrap64 (x5 + 1)) : Int).toNat x0.size)) else (none)) else (none))) else (none))) else (if x5 ≤ (x0.size : Int) then ((strconv_ParseUint.f (x0.extract 0 (x5 : Int).toNat) 10 64).bind fun bt107 => (if 0 ≤ (wrap64 (x5 + 1)) then (if (wrap64 (x5 + 1)) ≤ (x0.size : Int) then (some (bt107.1, bt x0 x5, x0.extract ((wrap64 (x5 + 1)) : Int).toNat x0.size)) else (none)) else (none))) else (none))) else (none)))))) else (none)) else (if x5 < 1 then (some (0, 0, (⟨#[]⟩ : ByteArray))) else (if x5 > 15 then (some (0, 0, (⟨#[]⟩ : ByteArray))) else (if x5 = (x0.size : Int) then (some (0, 0, (⟨#[]⟩ : ByteArray))) else (if 0 < (x0.size : Int) then (if (bt x0 0) = 48 then (if x5 > 1 then (some (0, 0, (⟨#[]⟩ : ByteArray))) else (if 0 ≤ x5 then (if x5 ≤ (x0.size : Int) then ((strconv_ParseUint.f (x0.extract 0 (x5 : Int).toNat) 10 64).bind fun bt109 => (none)) else (none)) else (none))) else (if 0 ≤ x5 then (if x5 ≤ (x0.size : Int) then ((strconv_ParseUint.f (x0.extract 0 (x5 : Int).toNat) 10 64).bind fun bt111 => (none)) else (none)) else (none))) else (none)))))
def zbz.f (k : Nat) (a0 : ByteArray) : Option (Int × Int × ByteArray) := zbz.l0 k a0 0
theorem zbz.calls (k : Nat) (a0 : ByteArray) (r1 : Int) (r2 : Int) (r3 : ByteArray) (w : World) (h : zbz.f k a0 = some (r1, r2, r3)) :
  Calls Tryz.prog 75 #[.string a0] w fun e w' => e = .returned (.tuple #[.int .u64 r1, .int .u8 r2, .string r3]) ∧ Below w.heap.size w w' := by
 have HB := mk0 (Below.refl w.heap.size w)
 have H : (zbz.l0 k a0 0) = some (r1, r2, r3) := h
 clear h
 have H' := mk0 H
 clear H
 go_enter Tryz.func75, Tryz.ntmps75
 go_wp2
 repeat (go_quiet (fail); try go_wp2)
 go_loopg [5] k (fun kq v5 w' => ∃ (x5_1 : Int), v5 = .int .i64 x5_1 ∧ Aside0 (zbz.l0 kq a0 x5_1 = some (r1, r2, r3)) ∧ Aside0 (kq ≤ k) ∧ Aside0 (Below w.heap.size w w'))
 case atStart => exact ⟨(0), (by first | rfl | (simp; done) | (simp [*]; done)), H', ⟨Nat.le_refl _⟩, ⟨by exact bok HB.out⟩⟩
 case round =>
  clear H'
  obtain ⟨x5_1, rfl, HA, HK1, HB⟩ := hrel
  cases gk with
  | zero => exact absurd HA.out (by simp [zbz.l0])
  | succ k1 =>
   have H := HA.out
   clear HA
   simp only [zbz.l0] at H
   by_cases c2 : x5_1 < (a0.size : Int)
   ·
    rw [if_pos c2] at H
    have c2b0 : decide (x5_1 < (a0.size : Int)) = true := decide_eq_true c2
    clear c2
    by_cases c3 : 0 ≤ x5_1
    ·
     rw [if_pos c3] at H
     have c3b0 : decide (0 ≤ x5_1) = true := decide_eq_true c3
     clear c3
     by_cases c5 : (bt a0 x5_1) ≥ 48
     ·
      rw [if_pos c5] at H
      have c5b0 : decide (48 ≤ (bt a0 x5_1)) = true := decide_eq_true c5
      clear c5
      by_cases c7 : (bt a0 x5_1) ≤ 57
      ·
       rw [if_pos c7] at H
       have c7b0 : decide ((bt a0 x5_1) ≤ 57) = true := decide_eq_true c7
       clear c7
       have H' := mk0 H
       clear H
       have p4 : 0 ≤ (x5_1 : Int) := of_decide_eq_true (by assumption)
       have q4 : x5_1 < (a0.size : Int) := of_decide_eq_true (by assumption)
       have hx4 := bt_at a0 x5_1
       replace p4 := eq_true p4
       replace q4 := eq_true q4
       have p6 : 0 ≤ (x5_1 : Int) := of_decide_eq_true (by assumption)
       have q6 : x5_1 < (a0.size : Int) := of_decide_eq_true (by assumption)
       have hx6 := bt_at a0 x5_1
       replace p6 := eq_true p6
       replace q6 := eq_true q6
       go_wp2
       repeat (go_quiet (fail); try go_wp2)
       go_roundg k1
       case measure => have := HK1.out; omega
       case rel => exact ⟨(wrap64 (x5_1 + 1)), (by first | rfl | (simp; done) | (simp [*]; done)), H', ⟨by have := HK1.out; omega⟩, ⟨by exact bok HB.out⟩⟩
      ·
       rw [if_neg c7] at H
       have c7b0 : decide ((bt a0 x5_1) ≤ 57) = false := decide_eq_false c7
       clear c7
       by_cases c8 : x5_1 < 1
       ·
        rw [if_pos c8] at H
        have c8b0 : decide (x5_1 < 1) = true := decide_eq_true c8
        clear c8
        simp only [Option.some.injEq, Prod.mk.injEq] at H
        obtain ⟨rfl, rfl, rfl⟩ := H
        have p4 : 0 ≤ (x5_1 : Int) := of_decide_eq_true (by assumption)
        have q4 : x5_1 < (a0.size : Int) := of_decide_eq_true (by assumption)
        have hx4 := bt_at a0 x5_1
        replace p4 := eq_true p4
        replace q4 := eq_true q4
        have p6 : 0 ≤ (x5_1 : Int) := of_decide_eq_true (by assumption)
        have q6 : x5_1 < (a0.size : Int) := of_decide_eq_true (by assumption)
        have hx6 := bt_at a0 x5_1
        replace p6 := eq_true p6
        replace q6 := eq_true q6
        go_wp2
        repeat (go_quiet (fail); try go_wp2)
        go_ret3
        exact ⟨by first | rfl | (simp [*, zbe, zbf] <;> rfl) | (simp [zbe, zbf]; exact isEmpty_ne _), by exact bok HB.out⟩
       ·
        rw [if_neg c8] at H
        have c8b0 : decide (x5_1 < 1) = false := decide_eq_false c8
        clear c8
        by_cases c9 : x5_1 > 15
        ·
         rw [if_pos c9] at H
         have c9b0 : decide (15 < x5_1) = true := decide_eq_true c9
         clear c9
         simp only [Option.some.injEq, Prod.mk.injEq] at H
         obtain ⟨rfl, rfl, rfl⟩ := H
         have p4 : 0 ≤ (x5_1 : Int) := of_decide_eq_true (by assumption)
         have q4 : x5_1 < (a0.size : Int) := of_decide_eq_true (by assumption)
         have hx4 := bt_at a0 x5_1
         replace p4 := eq_true p4
         replace q4 := eq_true q4
         have p6 : 0 ≤ (x5_1 : Int) := of_decide_eq_true (by assumption)
         have q6 : x5_1 < (a0.size : Int) := of_decide_eq_true (by assumption)
         have hx6 := bt_at a0 x5_1
         replace p6 := eq_true p6
         replace q6 := eq_true q6
         go_wp2
         repeat (go_quiet (fail); try go_wp2)
         go_ret3
         exact ⟨by first | rfl | (simp [*, zbe, zbf] <;> rfl) | (simp [zbe, zbf]; exact isEmpty_ne _), by exact bok HB.out⟩
        ·
         rw [if_neg c9] at H
         have c9b0 : decide (15 < x5_1) = false := decide_eq_false c9
         clear c9
         by_cases c10 : x5_1 = (a0.size : Int)
         ·
          rw [if_pos c10] at H
          have c10b0 : (x5_1 == (a0.size : Int)) = true := beq_iff_eq.mpr c10
          have c10b1 : (x5_1 != (a0.size : Int)) = false := bne_eq_false_iff_eq.mpr c10
          clear c10
          simp only [Option.some.injEq, Prod.mk.injEq] at H
          obtain ⟨rfl, rfl, rfl⟩ := H
          have p4 : 0 ≤ (x5_1 : Int) := of_decide_eq_true (by assumption)
          have q4 : x5_1 < (a0.size : Int) := of_decide_eq_true (by assumption)
          have hx4 := bt_at a0 x5_1
          replace p4 := eq_true p4
          replace q4 := eq_true q4
          have p6 : 0 ≤ (x5_1 : Int) := of_decide_eq_true (by assumption)
          have q6 : x5_1 < (a0.size : Int) := of_decide_eq_true (by assumption)
          have hx6 := bt_at a0 x5_1
          replace p6 := eq_true p6
          replace q6 := eq_true q6
          go_wp2
          repeat (go_quiet (fail); try go_wp2)
          go_ret3
          exact ⟨by first | rfl | (simp [*, zbe, zbf] <;> rfl) | (simp [zbe, zbf]; exact isEmpty_ne _), by exact bok HB.out⟩
         ·
          rw [if_neg c10] at H
          have c10b0 : (x5_1 == (a0.size : Int)) = false := beq_eq_false_iff_ne.mpr c10
          have c10b1 : (x5_1 != (a0.size : Int)) = true := bne_iff_ne.mpr c10
          by_cases c11 : 0 < (a0.size : Int)
          ·
           rw [if_pos c11] at H
           have c11b0 : decide (0 < (a0.size : Int)) = true := decide_eq_true c11
           have c11b1 : decide (0 < a0.size) = true := decide_eq_true (by omega)
           clear c11
           by_cases c13 : (bt a0 0) = 48
           ·
            rw [if_pos c13] at H
            have c13b0 : ((bt a0 0) == 48) = true := beq_iff_eq.mpr c13
            have c13b1 : ((bt a0 0) != 48) = false := bne_eq_false_iff_eq.mpr c13
            clear c13
            by_cases c14 : x5_1 > 1
            ·
             rw [if_pos c14] at H
             have c14b0 : decide (1 < x5_1) = true := decide_eq_true c14
             clear c14
             simp only [Option.some.injEq, Prod.mk.injEq] at H
             obtain ⟨rfl, rfl, rfl⟩ := H
             have p4 : 0 ≤ (x5_1 : Int) := of_decide_eq_true (by assumption)
             have q4 : x5_1 < (a0.size : Int) := of_decide_eq_true (by assumption)
             have hx4 := bt_at a0 x5_1
             replace p4 := eq_true p4
             replace q4 := eq_true q4
             have p6 : 0 ≤ (x5_1 : Int) := of_decide_eq_true (by assumption)
             have q6 : x5_1 < (a0.size : Int) := of_decide_eq_true (by assumption)
             have hx6 := bt_at a0 x5_1
             replace p6 := eq_true p6
             replace q6 := eq_true q6
             have p12 : 0 ≤ (0 : Int) := (by omega)
             have q12 : 0 < a0.size := (by have : (0 : Int) < (a0.size : Int) := of_decide_eq_true (by assumption); omega)
             have hx12 : ∀ h : 0 < a0.size, ((a0[0]'h).toNat : Int) = bt a0 0 := bt_at a0 0
             clear p12
             have qi12 : (0 < (a0.size : Int)) = True := eq_true (of_decide_eq_true (by assumption))
             replace q12 := eq_true q12
             go_wp2
             repeat (go_quiet (fail); try go_wp2)
             go_ret3
             exact ⟨by first | rfl | (simp [*, zbe, zbf] <;> rfl) | (simp [zbe, zbf]; exact isEmpty_ne _), by exact bok HB.out⟩
            ·
             rw [if_neg c14] at H
             have c14b0 : decide (1 < x5_1) = false := decide_eq_false c14
             clear c14
             have c15b0 := eq_true (of_decide_eq_true (by assumption) : 0 ≤ x5_1)
             by_cases c16 : x5_1 ≤ (a0.size : Int)
             ·
              rw [if_pos c16] at H
              have c16b0 := eq_true c16
              have c16b1 : decide (x5_1 ≤ (a0.size : Int)) = true := decide_eq_true c16
              clear c16
              replace H := Option.bind_eq_some_iff.mp H
              obtain ⟨⟨t101, t102⟩, A170, H⟩ := H
              replace H : (if 0 ≤ (wrap64 (x5_1 + 1)) then (if (wrap64 (x5_1 + 1)) ≤ (a0.size : Int) then (some (t101, bt a0 x5_1, a0.extract ((wrap64 (x5_1 + 1)) : Int).toNat a0.size)) else (none)) else (none)) = some (r1, r2, r3) := H
              have A17 := mk0 A170
              clear A170
              obtain ⟨ji19, hji19⟩ : ∃ j_ : Int, (wrap64 (x5_1 + 1)) = j_ := ⟨_, rfl⟩
              replace H : (if 0 ≤ (ji19) then (if (ji19) ≤ (a0.size : Int) then (some (t101, bt a0 x5_1, a0.extract ((ji19) : Int).toNat a0.size)) else (none)) else (none)) = some (r1, r2, r3) := by first | (rw [hji19] at H; exact H) | (simp only [hji19] at H ⊢; exact H)
              (try rw [hji19] at A17)
              have hji19w : (IntKind.i64.wrap (x5_1 + 1)) = ji19 := (i64_w _).trans hji19
              by_cases c20 : 0 ≤ (ji19)
              ·
               rw [if_pos c20] at H
               have c20b0 := eq_true c20
               have c20b1 : decide (0 ≤ (ji19)) = true := decide_eq_true c20
               clear c20
               by_cases c21 : (ji19) ≤ (a0.size : Int)
               ·
                rw [if_pos c21] at H
                have c21b0 := eq_true c21
                have c21b1 : decide ((ji19) ≤ (a0.size : Int)) = true := decide_eq_true c21
                clear c21
                simp only [Option.some.injEq, Prod.mk.injEq] at H
                obtain ⟨rfl, rfl, rfl⟩ := H
                have p4 : 0 ≤ (x5_1 : Int) := of_decide_eq_true (by assumption)
                have q4 : x5_1 < (a0.size : Int) := of_decide_eq_true (by assumption)
                have hx4 := bt_at a0 x5_1
                replace p4 := eq_true p4
                replace q4 := eq_true q4
                have p6 : 0 ≤ (x5_1 : Int) := of_decide_eq_true (by assumption)
                have q6 : x5_1 < (a0.size : Int) := of_decide_eq_true (by assumption)
                have hx6 := bt_at a0 x5_1
                replace p6 := eq_true p6
                replace q6 := eq_true q6
                have p12 : 0 ≤ (0 : Int) := (by omega)
                have q12 : 0 < a0.size := (by have : (0 : Int) < (a0.size : Int) := of_decide_eq_true (by assumption); omega)
                have hx12 : ∀ h : 0 < a0.size, ((a0[0]'h).toNat : Int) = bt a0 0 := bt_at a0 0
                clear p12
                have qi12 : (0 < (a0.size : Int)) = True := eq_true (of_decide_eq_true (by assumption))
                replace q12 := eq_true q12
                go_wp2_with (first | (go_at_call 94; (with_reducible refine (strconv_ParseUint.calls (a0.extract 0 (x5_1 : Int).toNat) 10 64 t101 t102 _ A17.out).mono ?_); rintro e w22 ⟨rfl, hb⟩; have n0_ := mk0 (bst HB.out hb); clear HB; have HB := n0_; clear n0_; (try clear hb); (try simp only [zbe, zbf]); have p18 : 0 ≤ (x5_1 : Int) := of_decide_eq_true (by assumption); have q18 : x5_1 < (a0.size : Int) := of_decide_eq_true (by assumption); have hx18 := bt_at a0 x5_1; replace p18 := eq_true p18; replace q18 := eq_true q18))
                repeat (go_quiet (first | (go_at_call 94; (with_reducible refine (strconv_ParseUint.calls (a0.extract 0 (x5_1 : Int).toNat) 10 64 t101 t102 _ A17.out).mono ?_); rintro e w22 ⟨rfl, hb⟩; have n0_ := mk0 (bst HB.out hb); clear HB; have HB := n0_; clear n0_; (try clear hb); (try simp only [zbe, zbf]); have p18 : 0 ≤ (x5_1 : Int) := of_decide_eq_true (by assumption); have q18 : x5_1 < (a0.size : Int) := of_decide_eq_true (by assumption); have hx18 := bt_at a0 x5_1; replace p18 := eq_true p18; replace q18 := eq_true q18)); try go_wp2_with (first | (go_at_call 94; (with_reducible refine (strconv_ParseUint.calls (a0.extract 0 (x5_1 : Int).toNat) 10 64 t101 t102 _ A17.out).mono ?_); rintro e w22 ⟨rfl, hb⟩; have n0_ := mk0 (bst HB.out hb); clear HB; have HB := n0_; clear n0_; (try clear hb); (try simp only [zbe, zbf]); have p18 : 0 ≤ (x5_1 : Int) := of_decide_eq_true (by assumption); have q18 : x5_1 < (a0.size : Int) := of_decide_eq_true (by assumption); have hx18 := bt_at a0 x5_1; replace p18 := eq_true p18; replace q18 := eq_true q18)))
                go_ret3
                exact ⟨by first | rfl | (simp [zbe, zbf] <;> rfl) | (simp only [← hji19]; first | rfl | (simp [zbe, zbf] <;> rfl)) | (simp [*, zbe, zbf] <;> rfl) | (simp [zbe, zbf]; exact isEmpty_ne _), by exact bok HB.out⟩
               ·
                rw [if_neg c21] at H
                exact absurd H (by simp)
              ·
               rw [if_neg c20] at H
               exact absurd H (by simp)
             ·
              rw [if_neg c16] at H
              exact absurd H (by simp)
           ·
            rw [if_neg c13] at H
            have c13b0 : ((bt a0 0) == 48) = false := beq_eq_false_iff_ne.mpr c13
            have c13b1 : ((bt a0 0) != 48) = true := bne_iff_ne.mpr c13
            have c23b0 := eq_true (of_decide_eq_true (by assumption) : 0 ≤ x5_1)
            by_cases c24 : x5_1 ≤ (a0.size : Int)
            ·
             rw [if_pos c24] at H
             have c24b0 := eq_true c24
             have c24b1 : decide (x5_1 ≤ (a0.size : Int)) = true := decide_eq_true c24
             clear c24
             replace H := Option.bind_eq_some_iff.mp H
             obtain ⟨⟨t103, t104⟩, A250, H⟩ := H
             replace H : (if 0 ≤ (wrap64 (x5_1 + 1)) then (if (wrap64 (x5_1 + 1)) ≤ (a0.size : Int) then (some (t103, bt a0 x5_1, a0.extract ((wrap64 (x5_1 + 1)) : Int).toNat a0.size)) else (none)) else (none)) = some (r1, r2, r3) := H
             have A25 := mk0 A250
             clear A250
             obtain ⟨ji27, hji27⟩ : ∃ j_ : Int, (wrap64 (x5_1 + 1)) = j_ := ⟨_, rfl⟩
             replace H : (if 0 ≤ (ji27) then (if (ji27) ≤ (a0.size : Int) then (some (t103, bt a0 x5_1, a0.extract ((ji27) : Int).toNat a0.size)) else (none)) else (none)) = some (r1, r2, r3) := by first | (rw [hji27] at H; exact H) | (simp only [hji27] at H ⊢; exact H)
             (try rw [hji27] at A25)
             have hji27w : (IntKind.i64.wrap (x5_1 + 1)) = ji27 := (i64_w _).trans hji27
             by_cases c28 : 0 ≤ (ji27)
             ·
              rw [if_pos c28] at H
              have c28b0 := eq_true c28
              have c28b1 : decide (0 ≤ (ji27)) = true := decide_eq_true c28
              clear c28
              by_cases c29 : (ji27) ≤ (a0.size : Int)
              ·
               rw [if_pos c29] at H
               have c29b0 := eq_true c29
               have c29b1 : decide ((ji27) ≤ (a0.size : Int)) = true := decide_eq_true c29
               clear c29
               simp only [Option.some.injEq, Prod.mk.injEq] at H
               obtain ⟨rfl, rfl, rfl⟩ := H
               have p4 : 0 ≤ (x5_1 : Int) := of_decide_eq_true (by assumption)
               have q4 : x5_1 < (a0.size : Int) := of_decide_eq_true (by assumption)
               have hx4 := bt_at a0 x5_1
               replace p4 := eq_true p4
               replace q4 := eq_true q4
               have p6 : 0 ≤ (x5_1 : Int) := of_decide_eq_true (by assumption)
               have q6 : x5_1 < (a0.size : Int) := of_decide_eq_true (by assumption)
               have hx6 := bt_at a0 x5_1
               replace p6 := eq_true p6
               replace q6 := eq_true q6
               have p12 : 0 ≤ (0 : Int) := (by omega)
               have q12 : 0 < a0.size := (by have : (0 : Int) < (a0.size : Int) := of_decide_eq_true (by assumption); omega)
               have hx12 : ∀ h : 0 < a0.size, ((a0[0]'h).toNat : Int) = bt a0 0 := bt_at a0 0
               clear p12
               have qi12 : (0 < (a0.size : Int)) = True := eq_true (of_decide_eq_true (by assumption))
               replace q12 := eq_true q12
               go_wp2_with (first | (go_at_call 94; (with_reducible refine (strconv_ParseUint.calls (a0.extract 0 (x5_1 : Int).toNat) 10 64 t103 t104 _ A25.out).mono ?_); rintro e w30 ⟨rfl, hb⟩; have n0_ := mk0 (bst HB.out hb); clear HB; have HB := n0_; clear n0_; (try clear hb); (try simp only [zbe, zbf]); have p26 : 0 ≤ (x5_1 : Int) := of_decide_eq_true (by assumption); have q26 : x5_1 < (a0.size : Int) := of_decide_eq_true (by assumption); have hx26 := bt_at a0 x5_1; replace p26 := eq_true p26; replace q26 := eq_true q26))
               repeat (go_quiet (first | (go_at_call 94; (with_reducible refine (strconv_ParseUint.calls (a0.extract 0 (x5_1 : Int).toNat) 10 64 t103 t104 _ A25.out).mono ?_); rintro e w30 ⟨rfl, hb⟩; have n0_ := mk0 (bst HB.out hb); clear HB; have HB := n0_; clear n0_; (try clear hb); (try simp only [zbe, zbf]); have p26 : 0 ≤ (x5_1 : Int) := of_decide_eq_true (by assumption); have q26 : x5_1 < (a0.size : Int) := of_decide_eq_true (by assumption); have hx26 := bt_at a0 x5_1; replace p26 := eq_true p26; replace q26 := eq_true q26)); try go_wp2_with (first | (go_at_call 94; (with_reducible refine (strconv_ParseUint.calls (a0.extract 0 (x5_1 : Int).toNat) 10 64 t103 t104 _ A25.out).mono ?_); rintro e w30 ⟨rfl, hb⟩; have n0_ := mk0 (bst HB.out hb); clear HB; have HB := n0_; clear n0_; (try clear hb); (try simp only [zbe, zbf]); have p26 : 0 ≤ (x5_1 : Int) := of_decide_eq_true (by assumption); have q26 : x5_1 < (a0.size : Int) := of_decide_eq_true (by assumption); have hx26 := bt_at a0 x5_1; replace p26 := eq_true p26; replace q26 := eq_true q26)))
               go_ret3
               exact ⟨by first | rfl | (simp [zbe, zbf] <;> rfl) | (simp only [← hji27]; first | rfl | (simp [zbe, zbf] <;> rfl)) | (simp [*, zbe, zbf] <;> rfl) | (simp [zbe, zbf]; exact isEmpty_ne _), by exact bok HB.out⟩
              ·
               rw [if_neg c29] at H
               exact absurd H (by simp)
             ·
              rw [if_neg c28] at H
              exact absurd H (by simp)
            ·
             rw [if_neg c24] at H
             exact absurd H (by simp)
          ·
           rw [if_neg c11] at H
           exact absurd H (by simp)
     ·
      rw [if_neg c5] at H
      have c5b0 : decide (48 ≤ (bt a0 x5_1)) = false := decide_eq_false c5
      clear c5
      by_cases c31 : x5_1 < 1
      ·
       rw [if_pos c31] at H
       have c31b0 : decide (x5_1 < 1) = true := decide_eq_true c31
       clear c31
       simp only [Option.some.injEq, Prod.mk.injEq] at H
       obtain ⟨rfl, rfl, rfl⟩ := H
       have p4 : 0 ≤ (x5_1 : Int) := of_decide_eq_true (by assumption)
       have q4 : x5_1 < (a0.size : Int) := of_decide_eq_true (by assumption)
       have hx4 := bt_at a0 x5_1
       replace p4 := eq_true p4
       replace q4 := eq_true q4
       go_wp2
       repeat (go_quiet (fail); try go_wp2)
       go_ret3
       exact ⟨by first | rfl | (simp [*, zbe, zbf] <;> rfl) | (simp [zbe, zbf]; exact isEmpty_ne _), by exact bok HB.out⟩
      ·
       rw [if_neg c31] at H
       have c31b0 : decide (x5_1 < 1) = false := decide_eq_false c31
       clear c31
       by_cases c32 : x5_1 > 15
       ·
        rw [if_pos c32] at H
        have c32b0 : decide (15 < x5_1) = true := decide_eq_true c32
        clear c32
        simp only [Option.some.injEq, Prod.mk.injEq] at H
        obtain ⟨rfl, rfl, rfl⟩ := H
        have p4 : 0 ≤ (x5_1 : Int) := of_decide_eq_true (by assumption)
        have q4 : x5_1 < (a0.size : Int) := of_decide_eq_true (by assumption)
        have hx4 := bt_at a0 x5_1
        replace p4 := eq_true p4
        replace q4 := eq_true q4
        go_wp2
        repeat (go_quiet (fail); try go_wp2)
        go_ret3
        exact ⟨by first | rfl | (simp [*, zbe, zbf] <;> rfl) | (simp [zbe, zbf]; exact isEmpty_ne _), by exact bok HB.out⟩
       ·
        rw [if_neg c32] at H
        have c32b0 : decide (15 < x5_1) = false := decide_eq_false c32
        clear c32
        by_cases c33 : x5_1 = (a0.size : Int)
        ·
         rw [if_pos c33] at H
         have c33b0 : (x5_1 == (a0.size : Int)) = true := beq_iff_eq.mpr c33
         have c33b1 : (x5_1 != (a0.size : Int)) = false := bne_eq_false_iff_eq.mpr c33
         clear c33
         simp only [Option.some.injEq, Prod.mk.injEq] at H
         obtain ⟨rfl, rfl, rfl⟩ := H
         have p4 : 0 ≤ (x5_1 : Int) := of_decide_eq_true (by assumption)
         have q4 : x5_1 < (a0.size : Int) := of_decide_eq_true (by assumption)
         have hx4 := bt_at a0 x5_1
         replace p4 := eq_true p4
         replace q4 := eq_true q4
         go_wp2
         repeat (go_quiet (fail); try go_wp2)
         go_ret3
         exact ⟨by first | rfl | (simp [*, zbe, zbf] <;> rfl) | (simp [zbe, zbf]; exact isEmpty_ne _), by exact bok HB.out⟩
        ·
         rw [if_neg c33] at H
         have c33b0 : (x5_1 == (a0.size : Int)) = false := beq_eq_false_iff_ne.mpr c33
         have c33b1 : (x5_1 != (a0.size : Int)) = true := bne_iff_ne.mpr c33
         by_cases c34 : 0 < (a0.size : Int)
         ·
          rw [if_pos c34] at H
          have c34b0 : decide (0 < (a0.size : Int)) = true := decide_eq_true c34
          have c34b1 : decide (0 < a0.size) = true := decide_eq_true (by omega)
          clear c34
          by_cases c36 : (bt a0 0) = 48
          ·
           rw [if_pos c36] at H
           have c36b0 : ((bt a0 0) == 48) = true := beq_iff_eq.mpr c36
           have c36b1 : ((bt a0 0) != 48) = false := bne_eq_false_iff_eq.mpr c36
           clear c36
           by_cases c37 : x5_1 > 1
           ·
            rw [if_pos c37] at H
            have c37b0 : decide (1 < x5_1) = true := decide_eq_true c37
            clear c37
            simp only [Option.some.injEq, Prod.mk.injEq] at H
            obtain ⟨rfl, rfl, rfl⟩ := H
            have p4 : 0 ≤ (x5_1 : Int) := of_decide_eq_true (by assumption)
            have q4 : x5_1 < (a0.size : Int) := of_decide_eq_true (by assumption)
            have hx4 := bt_at a0 x5_1
            replace p4 := eq_true p4
            replace q4 := eq_true q4
            have p35 : 0 ≤ (0 : Int) := (by omega)
            have q35 : 0 < a0.size := (by have : (0 : Int) < (a0.size : Int) := of_decide_eq_true (by assumption); omega)
            have hx35 : ∀ h : 0 < a0.size, ((a0[0]'h).toNat : Int) = bt a0 0 := bt_at a0 0
            clear p35
            have qi35 : (0 < (a0.size : Int)) = True := eq_true (of_decide_eq_true (by assumption))
            replace q35 := eq_true q35
            go_wp2
            repeat (go_quiet (fail); try go_wp2)
            go_ret3
            exact ⟨by first | rfl | (simp [*, zbe, zbf] <;> rfl) | (simp [zbe, zbf]; exact isEmpty_ne _), by exact bok HB.out⟩
           ·
            rw [if_neg c37] at H
            have c37b0 : decide (1 < x5_1) = false := decide_eq_false c37
            clear c37
            have c38b0 := eq_true (of_decide_eq_true (by assumption) : 0 ≤ x5_1)
            by_cases c39 : x5_1 ≤ (a0.size : Int)
            ·
             rw [if_pos c39] at H
             have c39b0 := eq_true c39
             have c39b1 : decide (x5_1 ≤ (a0.size : Int)) = true := decide_eq_true c39
             clear c39
             replace H := Option.bind_eq_some_iff.mp H
             obtain ⟨⟨t105, t106⟩, A400, H⟩ := H
             replace H : (if 0 ≤ (wrap64 (x5_1 + 1)) then (if (wrap64 (x5_1 + 1)) ≤ (a0.size : Int) then (some (t105, bt a0 x5_1, a0.extract ((wrap64 (x5_1 + 1)) : Int).toNat a0.size)) else (none)) else (none)) = some (r1, r2, r3) := H
             have A40 := mk0 A400
             clear A400
             obtain ⟨ji42, hji42⟩ : ∃ j_ : Int, (wrap64 (x5_1 + 1)) = j_ := ⟨_, rfl⟩
             replace H : (if 0 ≤ (ji42) then (if (ji42) ≤ (a0.size : Int) then (some (t105, bt a0 x5_1, a0.extract ((ji42) : Int).toNat a0.size)) else (none)) else (none)) = some (r1, r2, r3) := by first | (rw [hji42] at H; exact H) | (simp only [hji42] at H ⊢; exact H)
             (try rw [hji42] at A40)
             have hji42w : (IntKind.i64.wrap (x5_1 + 1)) = ji42 := (i64_w _).trans hji42
             by_cases c43 : 0 ≤ (ji42)
             ·
              rw [if_pos c43] at H
              have c43b0 := eq_true c43
              have c43b1 : decide (0 ≤ (ji42)) = true := decide_eq_true c43
              clear c43
              by_cases c44 : (ji42) ≤ (a0.size : Int)
              ·
               rw [if_pos c44] at H
               have c44b0 := eq_true c44
               have c44b1 : decide ((ji42) ≤ (a0.size : Int)) = true := decide_eq_true c44
               clear c44
               simp only [Option.some.injEq, Prod.mk.injEq] at H
               obtain ⟨rfl, rfl, rfl⟩ := H
               have p4 : 0 ≤ (x5_1 : Int) := of_decide_eq_true (by assumption)
               have q4 : x5_1 < (a0.size : Int) := of_decide_eq_true (by assumption)
               have hx4 := bt_at a0 x5_1
               replace p4 := eq_true p4
               replace q4 := eq_true q4
               have p35 : 0 ≤ (0 : Int) := (by omega)
               have q35 : 0 < a0.size := (by have : (0 : Int) < (a0.size : Int) := of_decide_eq_true (by assumption); omega)
               have hx35 : ∀ h : 0 < a0.size, ((a0[0]'h).toNat : Int) = bt a0 0 := bt_at a0 0
               clear p35
               have qi35 : (0 < (a0.size : Int)) = True := eq_true (of_decide_eq_true (by assumption))
               replace q35 := eq_true q35
               go_wp2_with (first | (go_at_call 94; (with_reducible refine (strconv_ParseUint.calls (a0.extract 0 (x5_1 : Int).toNat) 10 64 t105 t106 _ A40.out).mono ?_); rintro e w45 ⟨rfl, hb⟩; have n0_ := mk0 (bst HB.out hb); clear HB; have HB := n0_; clear n0_; (try clear hb); (try simp only [zbe, zbf]); have p41 : 0 ≤ (x5_1 : Int) := of_decide_eq_true (by assumption); have q41 : x5_1 < (a0.size : Int) := of_decide_eq_true (by assumption); have hx41 := bt_at a0 x5_1; replace p41 := eq_true p41; replace q41 := eq_true q41))
               repeat (go_quiet (first | (go_at_call 94; (with_reducible refine (strconv_ParseUint.calls (a0.extract 0 (x5_1 : Int).toNat) 10 64 t105 t106 _ A40.out).mono ?_); rintro e w45 ⟨rfl, hb⟩; have n0_ := mk0 (bst HB.out hb); clear HB; have HB := n0_; clear n0_; (try clear hb); (try simp only [zbe, zbf]); have p41 : 0 ≤ (x5_1 : Int) := of_decide_eq_true (by assumption); have q41 : x5_1 < (a0.size : Int) := of_decide_eq_true (by assumption); have hx41 := bt_at a0 x5_1; replace p41 := eq_true p41; replace q41 := eq_true q41)); try go_wp2_with (first | (go_at_call 94; (with_reducible refine (strconv_ParseUint.calls (a0.extract 0 (x5_1 : Int).toNat) 10 64 t105 t106 _ A40.out).mono ?_); rintro e w45 ⟨rfl, hb⟩; have n0_ := mk0 (bst HB.out hb); clear HB; have HB := n0_; clear n0_; (try clear hb); (try simp only [zbe, zbf]); have p41 : 0 ≤ (x5_1 : Int) := of_decide_eq_true (by assumption); have q41 : x5_1 < (a0.size : Int) := of_decide_eq_true (by assumption); have hx41 := bt_at a0 x5_1; replace p41 := eq_true p41; replace q41 := eq_true q41)))
               go_ret3
               exact ⟨by first | rfl | (simp [zbe, zbf] <;> rfl) | (simp only [← hji42]; first | rfl | (simp [zbe, zbf] <;> rfl)) | (simp [*, zbe, zbf] <;> rfl) | (simp [zbe, zbf]; exact isEmpty_ne _), by exact bok HB.out⟩
              ·
               rw [if_neg c44] at H
               exact absurd H (by simp)
             ·
              rw [if_neg c43] at H
              exact absurd H (by simp)
            ·
             rw [if_neg c39] at H
             exact absurd H (by simp)
          ·
           rw [if_neg c36] at H
           have c36b0 : ((bt a0 0) == 48) = false := beq_eq_false_iff_ne.mpr c36
           have c36b1 : ((bt a0 0) != 48) = true := bne_iff_ne.mpr c36
           have c46b0 := eq_true (of_decide_eq_true (by assumption) : 0 ≤ x5_1)
           by_cases c47 : x5_1 ≤ (a0.size : Int)
           ·
            rw [if_pos c47] at H
            have c47b0 := eq_true c47
            have c47b1 : decide (x5_1 ≤ (a0.size : Int)) = true := decide_eq_true c47
            clear c47
            replace H := Option.bind_eq_some_iff.mp H
            obtain ⟨⟨t107, t108⟩, A480, H⟩ := H
            replace H : (if 0 ≤ (wrap64 (x5_1 + 1)) then (if (wrap64 (x5_1 + 1)) ≤ (a0.size : Int) then (some (t107, bt a0 x5_1, a0.extract ((wrap64 (x5_1 + 1)) : Int).toNat a0.size)) else (none)) else (none)) = some (r1, r2, r3) := H
            have A48 := mk0 A480
            clear A480
            obtain ⟨ji50, hji50⟩ : ∃ j_ : Int, (wrap64 (x5_1 + 1)) = j_ := ⟨_, rfl⟩
            replace H : (if 0 ≤ (ji50) then (if (ji50) ≤ (a0.size : Int) then (some (t107, bt a0 x5_1, a0.extract ((ji50) : Int).toNat a0.size)) else (none)) else (none)) = some (r1, r2, r3) := by first | (rw [hji50] at H; exact H) | (simp only [hji50] at H ⊢; exact H)
            (try rw [hji50] at A48)
            have hji50w : (IntKind.i64.wrap (x5_1 + 1)) = ji50 := (i64_w _).trans hji50
            by_cases c51 : 0 ≤ (ji50)
            ·
             rw [if_pos c51] at H
             have c51b0 := eq_true c51
             have c51b1 : decide (0 ≤ (ji50)) = true := decide_eq_true c51
             clear c51
             by_cases c52 : (ji50) ≤ (a0.size : Int)
             ·
              rw [if_pos c52] at H
              have c52b0 := eq_true c52
              have c52b1 : decide ((ji50) ≤ (a0.size : Int)) = true := decide_eq_true c52
              clear c52
              simp only [Option.some.injEq, Prod.mk.injEq] at H
              obtain ⟨rfl, rfl, rfl⟩ := H
              have p4 : 0 ≤ (x5_1 : Int) := of_decide_eq_true (by assumption)
              have q4 : x5_1 < (a0.size : Int) := of_decide_eq_true (by assumption)
              have hx4 := bt_at a0 x5_1
              replace p4 := eq_true p4
              replace q4 := eq_true q4
              have p35 : 0 ≤ (0 : Int) := (by omega)
              have q35 : 0 < a0.size := (by have : (0 : Int) < (a0.size : Int) := of_decide_eq_true (by assumption); omega)
              have hx35 : ∀ h : 0 < a0.size, ((a0[0]'h).toNat : Int) = bt a0 0 := bt_at a0 0
              clear p35
              have qi35 : (0 < (a0.size : Int)) = True := eq_true (of_decide_eq_true (by assumption))
              replace q35 := eq_true q35
              go_wp2_with (first | (go_at_call 94; (with_reducible refine (strconv_ParseUint.calls (a0.extract 0 (x5_1 : Int).toNat) 10 64 t107 t108 _ A48.out).mono ?_); rintro e w53 ⟨rfl, hb⟩; have n0_ := mk0 (bst HB.out hb); clear HB; have HB := n0_; clear n0_; (try clear hb); (try simp only [zbe, zbf]); have p49 : 0 ≤ (x5_1 : Int) := of_decide_eq_true (by assumption); have q49 : x5_1 < (a0.size : Int) := of_decide_eq_true (by assumption); have hx49 := bt_at a0 x5_1; replace p49 := eq_true p49; replace q49 := eq_true q49))
              repeat (go_quiet (first | (go_at_call 94; (with_reducible refine (strconv_ParseUint.calls (a0.extract 0 (x5_1 : Int).toNat) 10 64 t107 t108 _ A48.out).mono ?_); rintro e w53 ⟨rfl, hb⟩; have n0_ := mk0 (bst HB.out hb); clear HB; have HB := n0_; clear n0_; (try clear hb); (try simp only [zbe, zbf]); have p49 : 0 ≤ (x5_1 : Int) := of_decide_eq_true (by assumption); have q49 : x5_1 < (a0.size : Int) := of_decide_eq_true (by assumption); have hx49 := bt_at a0 x5_1; replace p49 := eq_true p49; replace q49 := eq_true q49)); try go_wp2_with (first | (go_at_call 94; (with_reducible refine (strconv_ParseUint.calls (a0.extract 0 (x5_1 : Int).toNat) 10 64 t107 t108 _ A48.out).mono ?_); rintro e w53 ⟨rfl, hb⟩; have n0_ := mk0 (bst HB.out hb); clear HB; have HB := n0_; clear n0_; (try clear hb); (try simp only [zbe, zbf]); have p49 : 0 ≤ (x5_1 : Int) := of_decide_eq_true (by assumption); have q49 : x5_1 < (a0.size : Int) := of_decide_eq_true (by assumption); have hx49 := bt_at a0 x5_1; replace p49 := eq_true p49; replace q49 := eq_true q49)))
              go_ret3
              exact ⟨by first | rfl | (simp [zbe, zbf] <;> rfl) | (simp only [← hji50]; first | rfl | (simp [zbe, zbf] <;> rfl)) | (simp [*, zbe, zbf] <;> rfl) | (simp [zbe, zbf]; exact isEmpty_ne _), by exact bok HB.out⟩
             ·
              rw [if_neg c52] at H
              exact absurd H (by simp)
            ·
             rw [if_neg c51] at H
             exact absurd H (by simp)
           ·
            rw [if_neg c47] at H
            exact absurd H (by simp)
         ·
          rw [if_neg c34] at H
          exact absurd H (by simp)
    ·
     rw [if_neg c3] at H
     exact absurd H (by simp)
   ·
    rw [if_neg c2] at H
    have c2b0 : decide (x5_1 < (a0.size : Int)) = false := decide_eq_false c2
    clear c2
    by_cases c54 : x5_1 < 1
    ·
     rw [if_pos c54] at H
     have c54b0 : decide (x5_1 < 1) = true := decide_eq_true c54
     clear c54
     simp only [Option.some.injEq, Prod.mk.injEq] at H
     obtain ⟨rfl, rfl, rfl⟩ := H
     go_wp2
     repeat (go_quiet (fail); try go_wp2)
     go_ret3
     exact ⟨by first | rfl | (simp [*, zbe, zbf] <;> rfl) | (simp [zbe, zbf]; exact isEmpty_ne _), by exact bok HB.out⟩
    ·
     rw [if_neg c54] at H
     have c54b0 : decide (x5_1 < 1) = false := decide_eq_false c54
     clear c54
     by_cases c55 : x5_1 > 15
     ·
      rw [if_pos c55] at H
      have c55b0 : decide (15 < x5_1) = true := decide_eq_true c55
      clear c55
      simp only [Option.some.injEq, Prod.mk.injEq] at H
      obtain ⟨rfl, rfl, rfl⟩ := H
      go_wp2
      repeat (go_quiet (fail); try go_wp2)
      go_ret3
      exact ⟨by first | rfl | (simp [*, zbe, zbf] <;> rfl) | (simp [zbe, zbf]; exact isEmpty_ne _), by exact bok HB.out⟩
     ·
      rw [if_neg c55] at H
      have c55b0 : decide (15 < x5_1) = false := decide_eq_false c55
      clear c55
      by_cases c56 : x5_1 = (a0.size : Int)
      ·
       rw [if_pos c56] at H
       have c56b0 : (x5_1 == (a0.size : Int)) = true := beq_iff_eq.mpr c56
       have c56b1 : (x5_1 != (a0.size : Int)) = false := bne_eq_false_iff_eq.mpr c56
       clear c56
       simp only [Option.some.injEq, Prod.mk.injEq] at H
       obtain ⟨rfl, rfl, rfl⟩ := H
       go_wp2
       repeat (go_quiet (fail); try go_wp2)
       go_ret3
       exact ⟨by first | rfl | (simp [*, zbe, zbf] <;> rfl) | (simp [zbe, zbf]; exact isEmpty_ne _), by exact bok HB.out⟩
      ·
       rw [if_neg c56] at H
       have c56b0 : (x5_1 == (a0.size : Int)) = false := beq_eq_false_iff_ne.mpr c56
       have c56b1 : (x5_1 != (a0.size : Int)) = true := bne_iff_ne.mpr c56
       by_cases c57 : 0 < (a0.size : Int)
       ·
        rw [if_pos c57] at H
        have c57b0 : decide (0 < (a0.size : Int)) = true := decide_eq_true c57
        have c57b1 : decide (0 < a0.size) = true := decide_eq_true (by omega)
        clear c57
        by_cases c59 : (bt a0 0) = 48
        ·
         rw [if_pos c59] at H
         have c59b0 : ((bt a0 0) == 48) = true := beq_iff_eq.mpr c59
         have c59b1 : ((bt a0 0) != 48) = false := bne_eq_false_iff_eq.mpr c59
         clear c59
         by_cases c60 : x5_1 > 1
         ·
          rw [if_pos c60] at H
          have c60b0 : decide (1 < x5_1) = true := decide_eq_true c60
          clear c60
          simp only [Option.some.injEq, Prod.mk.injEq] at H
          obtain ⟨rfl, rfl, rfl⟩ := H
          have p58 : 0 ≤ (0 : Int) := (by omega)
          have q58 : 0 < a0.size := (by have : (0 : Int) < (a0.size : Int) := of_decide_eq_true (by assumption); omega)
          have hx58 : ∀ h : 0 < a0.size, ((a0[0]'h).toNat : Int) = bt a0 0 := bt_at a0 0
          clear p58
          have qi58 : (0 < (a0.size : Int)) = True := eq_true (of_decide_eq_true (by assumption))
          replace q58 := eq_true q58
          go_wp2
          repeat (go_quiet (fail); try go_wp2)
          go_ret3
          exact ⟨by first | rfl | (simp [*, zbe, zbf] <;> rfl) | (simp [zbe, zbf]; exact isEmpty_ne _), by exact bok HB.out⟩
         ·
          rw [if_neg c60] at H
          have c60b0 : decide (1 < x5_1) = false := decide_eq_false c60
          clear c60
          by_cases c61 : 0 ≤ x5_1
          ·
           rw [if_pos c61] at H
           have c61b0 := eq_true c61
           have c61b1 : decide (0 ≤ x5_1) = true := decide_eq_true c61
           clear c61
           by_cases c62 : x5_1 ≤ (a0.size : Int)
           ·
            rw [if_pos c62] at H
            have c62b0 := eq_true c62
            have c62b1 : decide (x5_1 ≤ (a0.size : Int)) = true := decide_eq_true c62
            clear c62
            replace H := Option.bind_eq_some_iff.mp H
            obtain ⟨⟨t109, t110⟩, A630, H⟩ := H
            replace H : (none) = some (r1, r2, r3) := H
            have A63 := mk0 A630
            clear A630
            exact absurd H (by simp)
           ·
            rw [if_neg c62] at H
            exact absurd H (by simp)
          ·
           rw [if_neg c61] at H
           exact absurd H (by simp)
        ·
         rw [if_neg c59] at H
         have c59b0 : ((bt a0 0) == 48) = false := beq_eq_false_iff_ne.mpr c59
         have c59b1 : ((bt a0 0) != 48) = true := bne_iff_ne.mpr c59
         by_cases c64 : 0 ≤ x5_1
         ·
          rw [if_pos c64] at H
          have c64b0 := eq_true c64
          have c64b1 : decide (0 ≤ x5_1) = true := decide_eq_true c64
          clear c64
          by_cases c65 : x5_1 ≤ (a0.size : Int)
          ·
           rw [if_pos c65] at H
           have c65b0 := eq_true c65
           have c65b1 : decide (x5_1 ≤ (a0.size : Int)) = true := decide_eq_true c65
           clear c65
           replace H := Option.bind_eq_some_iff.mp H
           obtain ⟨⟨t111, t112⟩, A660, H⟩ := H
           replace H : (none) = some (r1, r2, r3) := H
           have A66 := mk0 A660
           clear A660
           exact absurd H (by simp)
          ·
           rw [if_neg c65] at H
           exact absurd H (by simp)
         ·
          rw [if_neg c64] at H
          exact absurd H (by simp)
       ·
        rw [if_neg c57] at H
        exact absurd H (by simp)


/-! ### tick_Times: function 95 -/
def tick_Times.f (a0 : Int) (a1 : Int) : Option (Int × Bool) := (bits_Mul64.f a0 a1).bind fun bt113 => (if bt113.1 = 0 then (some (bt113.2, true)) else (some (0, false)))
theorem tick_Times.calls (a0 : Int) (a1 : Int) (r1 : Int) (r2 : Bool) (w : World) (h : tick_Times.f a0 a1 = some (r1, r2)) :
  Calls Tryz.prog 95 #[.int .u64 a0, .int .u64 a1] w fun e w' => e = .returned (.tuple #[.int .u64 r1, .bool r2]) ∧ Drawn0 w w' := by
 have H : ((bits_Mul64.f a0 a1).bind fun bt113 => (if bt113.1 = 0 then (some (bt113.2, true)) else (some (0, false)))) = some (r1, r2) := h
 clear h
 replace H := Option.bind_eq_some_iff.mp H
 obtain ⟨⟨t113, t114⟩, A30, H⟩ := H
 replace H : (if t113 = 0 then (some (t114, true)) else (some (0, false))) = some (r1, r2) := H
 have A3 := mk0 A30
 clear A30
 by_cases c4 : t113 = 0
 ·
  rw [if_pos c4] at H
  have c4b0 : (t113 == 0) = true := beq_iff_eq.mpr c4
  have c4b1 : (t113 != 0) = false := bne_eq_false_iff_eq.mpr c4
  clear c4
  simp only [Option.some.injEq, Prod.mk.injEq] at H
  obtain ⟨rfl, rfl⟩ := H
  go_enter Tryz.func95, Tryz.ntmps95
  go_wp2_with (first | ((with_reducible refine gate_callee (f := 117) rfl ?_); refine goesL_ (some 11) rfl rfl Tryz.func117 (by kernel_rfl) rfl #[.int .u64 a0, .int .u64 a1] rfl (by (try simp only [List.map_toArray, List.map_cons, List.map_nil]); first | done | rfl | (simp only [List.length_drop, List.length_take]; rfl)) ?_; (with_reducible refine (bits_Mul64.calls a0 a1 t113 t114 _ A3.out).mono ?_); rintro e w' ⟨rfl, ⟨nd, rfl⟩⟩; refine ⟨_, rfl, ?_⟩))
  go_ret2
  exact ⟨by first | rfl | (simp; done) | (simp [*]; done) | (simp; exact isEmpty_ne _), by repeat (first | exact Drawn0.refl _ | apply Drawn0.step)⟩
 ·
  rw [if_neg c4] at H
  have c4b0 : (t113 == 0) = false := beq_eq_false_iff_ne.mpr c4
  have c4b1 : (t113 != 0) = true := bne_iff_ne.mpr c4
  simp only [Option.some.injEq, Prod.mk.injEq] at H
  obtain ⟨rfl, rfl⟩ := H
  go_enter Tryz.func95, Tryz.ntmps95
  go_wp2_with (first | ((with_reducible refine gate_callee (f := 117) rfl ?_); refine goesL_ (some 11) rfl rfl Tryz.func117 (by kernel_rfl) rfl #[.int .u64 a0, .int .u64 a1] rfl (by (try simp only [List.map_toArray, List.map_cons, List.map_nil]); first | done | rfl | (simp only [List.length_drop, List.length_take]; rfl)) ?_; (with_reducible refine (bits_Mul64.calls a0 a1 t113 t114 _ A3.out).mono ?_); rintro e w' ⟨rfl, ⟨nd, rfl⟩⟩; refine ⟨_, rfl, ?_⟩))
  go_ret2
  exact ⟨by first | rfl | (simp; done) | (simp [*]; done) | (simp; exact isEmpty_ne _), by repeat (first | exact Drawn0.refl _ | apply Drawn0.step)⟩


/-! ### tick_Held: function 96 -/
def tick_Held.f (a0 : Int) (a1 : Int) : Option (Int) := (tick_Sum.f a0 a1).bind fun bt115 => (if bt115.2 = true then (some bt115.1) else (some 18446744073709551615))
theorem tick_Held.calls (a0 : Int) (a1 : Int) (r : Int) (w : World) (h : tick_Held.f a0 a1 = some r) :
  Calls Tryz.prog 96 #[.int .u64 a0, .int .u64 a1] w fun e w' => e = .returned (.int .u64 r) ∧ Drawn0 w w' := by
 have H : ((tick_Sum.f a0 a1).bind fun bt115 => (if bt115.2 = true then (some bt115.1) else (some 18446744073709551615))) = some r := h
 clear h
 replace H := Option.bind_eq_some_iff.mp H
 obtain ⟨⟨t115, t116⟩, A30, H⟩ := H
 replace H : (if t116 = true then (some t115) else (some 18446744073709551615)) = some r := H
 have A3 := mk0 A30
 clear A30
 by_cases c4 : t116 = true
 ·
  subst c4
  have H1 : (some t115) = some r := by rw [if_pos rfl] at H; exact H
  clear H
  have H := H1
  clear H1
  obtain rfl := Option.some.inj H
  go_enter Tryz.func96, Tryz.ntmps96
  go_wp2_with (first | ((with_reducible refine gate_callee (f := 118) rfl ?_); refine goesL_ (some 10) rfl rfl Tryz.func118 (by kernel_rfl) rfl #[.int .u64 a0, .int .u64 a1] rfl (by (try simp only [List.map_toArray, List.map_cons, List.map_nil]); first | done | rfl | (simp only [List.length_drop, List.length_take]; rfl)) ?_; (with_reducible refine (tick_Sum.calls a0 a1 t115 true _ A3.out).mono ?_); rintro e w' ⟨rfl, ⟨nd, rfl⟩⟩; refine ⟨_, rfl, ?_⟩))
  go_ret
  exact ⟨by first | rfl | (simp; done) | (simp [*]; done) | (simp; exact isEmpty_ne _), by repeat (first | exact Drawn0.refl _ | apply Drawn0.step)⟩
 ·
  replace c4 := Bool.eq_false_iff.mpr c4
  subst c4
  have H1 : (some 18446744073709551615) = some r := by rw [if_neg (show ¬ (false = true) by decide)] at H; exact H
  clear H
  have H := H1
  clear H1
  obtain rfl := Option.some.inj H
  go_enter Tryz.func96, Tryz.ntmps96
  go_wp2_with (first | ((with_reducible refine gate_callee (f := 118) rfl ?_); refine goesL_ (some 10) rfl rfl Tryz.func118 (by kernel_rfl) rfl #[.int .u64 a0, .int .u64 a1] rfl (by (try simp only [List.map_toArray, List.map_cons, List.map_nil]); first | done | rfl | (simp only [List.length_drop, List.length_take]; rfl)) ?_; (with_reducible refine (tick_Sum.calls a0 a1 t115 false _ A3.out).mono ?_); rintro e w' ⟨rfl, ⟨nd, rfl⟩⟩; refine ⟨_, rfl, ?_⟩))
  go_ret
  exact ⟨by first | rfl | (simp; done) | (simp [*]; done) | (simp; exact isEmpty_ne _), by repeat (first | exact Drawn0.refl _ | apply Drawn0.step)⟩

/-! ### zby: function 76 -/
def zby.f (a0 : Int) (a1 : Int) (a2 : Int) : Option (Int) := (tick_Times.f a1 a2).bind fun bt117 => (if bt117.2 = true then ((tick_Held.f a0 bt117.1).bind fun t119 => (some t119)) else ((tick_Held.f 1125899906842624 1).bind fun t120 => ((tick_Held.f a0 t120).bind fun t121 => (some t121))))
theorem zby.calls (a0 : Int) (a1 : Int) (a2 : Int) (r : Int) (w : World) (h : zby.f a0 a1 a2 = some r) :
  Calls Tryz.prog 76 #[.int .u64 a0, .int .u64 a1, .int .u64 a2] w fun e w' => e = .returned (.int .u64 r) ∧ Drawn0 w w' := by
 have H : ((tick_Times.f a1 a2).bind fun bt117 => (if bt117.2 = true then ((tick_Held.f a0 bt117.1).bind fun t119 => (some t119)) else ((tick_Held.f 1125899906842624 1).bind fun t120 => ((tick_Held.f a0 t120).bind fun t121 => (some t121))))) = some r := h
 clear h
 replace H := Option.bind_eq_some_iff.mp H
 obtain ⟨⟨t117, t118⟩, A40, H⟩ := H
 replace H : (if t118 = true then ((tick_Held.f a0 t117).bind fun t119 => (some t119)) else ((tick_Held.f 1125899906842624 1).bind fun t120 => ((tick_Held.f a0 t120).bind fun t121 => (some t121)))) = some r := H
 have A4 := mk0 A40
 clear A40
 by_cases c5 : t118 = true
 ·
  subst c5
  have H1 : ((tick_Held.f a0 t117).bind fun t119 => (some t119)) = some r := by rw [if_pos rfl] at H; exact H
  clear H
  have H := H1
  clear H1
  replace H := Option.bind_eq_some_iff.mp H
  obtain ⟨t119, A60, H⟩ := H
  replace H : (some t119) = some r := H
  have A6 := mk0 A60
  clear A60
  obtain rfl := Option.some.inj H
  go_enter Tryz.func76, Tryz.ntmps76
  go_wp2_with (first | ((with_reducible refine gate_callee (f := 95) rfl ?_); refine goesL_ (some 12) rfl rfl Tryz.func95 (by kernel_rfl) rfl #[.int .u64 a1, .int .u64 a2] rfl (by (try simp only [List.map_toArray, List.map_cons, List.map_nil]); first | done | rfl | (simp only [List.length_drop, List.length_take]; rfl)) ?_; (with_reducible refine (tick_Times.calls a1 a2 t117 true _ A4.out).mono ?_); rintro e w' ⟨rfl, ⟨nd, rfl⟩⟩; refine ⟨_, rfl, ?_⟩) | ((with_reducible refine gate_callee (f := 96) rfl ?_); refine goesL_ (some 20) rfl rfl Tryz.func96 (by kernel_rfl) rfl #[.int .u64 a0, .int .u64 t117] rfl (by (try simp only [List.map_toArray, List.map_cons, List.map_nil]); first | done | rfl | (simp only [List.length_drop, List.length_take]; rfl)) ?_; (with_reducible refine (tick_Held.calls a0 t117 t119 _ A6.out).mono ?_); rintro e w' ⟨rfl, ⟨nd, rfl⟩⟩; refine ⟨_, rfl, ?_⟩))
  go_ret
  exact ⟨by first | rfl | (simp; done) | (simp [*]; done) | (simp; exact isEmpty_ne _), by repeat (first | exact Drawn0.refl _ | apply Drawn0.step)⟩
 ·
  replace c5 := Bool.eq_false_iff.mpr c5
  subst c5
  have H1 : ((tick_Held.f 1125899906842624 1).bind fun t120 => ((tick_Held.f a0 t120).bind fun t121 => (some t121))) = some r := by rw [if_neg (show ¬ (false = true) by decide)] at H; exact H
  clear H
  have H := H1
  clear H1
  replace H := Option.bind_eq_some_iff.mp H
  obtain ⟨t120, A70, H⟩ := H
  replace H : ((tick_Held.f a0 t120).bind fun t121 => (some t121)) = some r := H
  have A7 := mk0 A70
  clear A70
  replace H := Option.bind_eq_some_iff.mp H
  obtain ⟨t121, A80, H⟩ := H
  replace H : (some t121) = some r := H
  have A8 := mk0 A80
  clear A80
  obtain rfl := Option.some.inj H
  go_enter Tryz.func76, Tryz.ntmps76
  go_wp2_with (first | ((with_reducible refine gate_callee (f := 95) rfl ?_); refine goesL_ (some 12) rfl rfl Tryz.func95 (by kernel_rfl) rfl #[.int .u64 a1, .int .u64 a2] rfl (by (try simp only [List.map_toArray, List.map_cons, List.map_nil]); first | done | rfl | (simp only [List.length_drop, List.length_take]; rfl)) ?_; (with_reducible refine (tick_Times.calls a1 a2 t117 false _ A4.out).mono ?_); rintro e w' ⟨rfl, ⟨nd, rfl⟩⟩; refine ⟨_, rfl, ?_⟩) | ((with_reducible refine gate_callee (f := 96) rfl ?_); refine goesL_ (some 17) rfl rfl Tryz.func96 (by kernel_rfl) rfl #[.int .u64 1125899906842624, .int .u64 1] rfl (by (try simp only [List.map_toArray, List.map_cons, List.map_nil]); first | done | rfl | (simp only [List.length_drop, List.length_take]; rfl)) ?_; (with_reducible refine (tick_Held.calls 1125899906842624 1 t120 _ A7.out).mono ?_); rintro e w' ⟨rfl, ⟨nd, rfl⟩⟩; refine ⟨_, rfl, ?_⟩) | ((with_reducible refine gate_callee (f := 96) rfl ?_); refine goesL_ (some 20) rfl rfl Tryz.func96 (by kernel_rfl) rfl #[.int .u64 a0, .int .u64 t120] rfl (by (try simp only [List.map_toArray, List.map_cons, List.map_nil]); first | done | rfl | (simp only [List.length_drop, List.length_take]; rfl)) ?_; (with_reducible refine (tick_Held.calls a0 t120 t121 _ A8.out).mono ?_); rintro e w' ⟨rfl, ⟨nd, rfl⟩⟩; refine ⟨_, rfl, ?_⟩))
  go_ret
  exact ⟨by first | rfl | (simp; done) | (simp [*]; done) | (simp; exact isEmpty_ne _), by repeat (first | exact Drawn0.refl _ | apply Drawn0.step)⟩

/-! ### stringslite_HasPrefix: function 93 -/
def stringslite_HasPrefix.f (a0 : ByteArray) (a1 : ByteArray) : Option (Bool) := if (a0.size : Int) ≥ (a1.size : Int) then (if 0 ≤ (a1.size : Int) then (if (a1.size : Int) ≤ (a0.size : Int) then (some ((a0.extract 0 ((a1.size : Int) : Int).toNat).toList == a1.toList)) else (none)) else (none)) else (some false)
theorem stringslite_HasPrefix.calls (a0 : ByteArray) (a1 : ByteArray) (r : Bool) (w : World) (h : stringslite_HasPrefix.f a0 a1 = some r) :
  Calls Tryz.prog 93 #[.string a0, .string a1] w fun e w' => e = .returned (.bool r) ∧ Drawn0 w w' := by
 have H : (if (a0.size : Int) ≥ (a1.size : Int) then (if 0 ≤ (a1.size : Int) then (if (a1.size : Int) ≤ (a0.size : Int) then (some ((a0.extract 0 ((a1.size : Int) : Int).toNat).toList == a1.toList)) else (none)) else (none)) else (some false)) = some r := h
 clear h
 by_cases c3 : (a0.size : Int) ≥ (a1.size : Int)
 ·
  rw [if_pos c3] at H
  have c3b0 : decide ((a1.size : Int) ≤ (a0.size : Int)) = true := decide_eq_true c3
  have c3b1 : decide (a1.size ≤ a0.size) = true := decide_eq_true (Int.ofNat_le.mp c3)
  clear c3
  by_cases c4 : 0 ≤ (a1.size : Int)
  ·
   rw [if_pos c4] at H
   have c4b0 := eq_true c4
   have c4b1 : decide (0 ≤ (a1.size : Int)) = true := decide_eq_true c4
   clear c4
   by_cases c5 : (a1.size : Int) ≤ (a0.size : Int)
   ·
    rw [if_pos c5] at H
    have c5b0 := eq_true c5
    have c5b1 : decide ((a1.size : Int) ≤ (a0.size : Int)) = true := decide_eq_true c5
    clear c5
    obtain rfl := Option.some.inj H
    go_enter Tryz.func93, Tryz.ntmps93
    go_wp2
    go_ret
    exact ⟨by first | rfl | (simp; done) | (simp [*]; done) | (simp; exact isEmpty_ne _), by repeat (first | exact Drawn0.refl _ | apply Drawn0.step)⟩
   ·
    rw [if_neg c5] at H
    exact absurd H (by simp)
  ·
   rw [if_neg c4] at H
   exact absurd H (by simp)
 ·
  rw [if_neg c3] at H
  have c3b0 : decide ((a1.size : Int) ≤ (a0.size : Int)) = false := decide_eq_false c3
  have c3b1 : decide (a1.size ≤ a0.size) = false := decide_eq_false (fun h => c3 (Int.ofNat_le.mpr h))
  clear c3
  obtain rfl := Option.some.inj H
  go_enter Tryz.func93, Tryz.ntmps93
  go_wp2
  go_ret
  exact ⟨by first | rfl | (simp; done) | (simp [*]; done) | (simp; exact isEmpty_ne _), by repeat (first | exact Drawn0.refl _ | apply Drawn0.step)⟩

/-! ### stringslite_CutPrefix: function 92 -/
def stringslite_CutPrefix.f (a0 : ByteArray) (a1 : ByteArray) : Option (ByteArray × Bool) := (stringslite_HasPrefix.f a0 a1).bind fun t122 => (if t122 = true then (if 0 ≤ (a1.size : Int) then (if (a1.size : Int) ≤ (a0.size : Int) then (some (a0.extract ((a1.size : Int) : Int).toNat a0.size, true)) else (none)) else (none)) else (some (a0, false)))
theorem stringslite_CutPrefix.calls (a0 : ByteArray) (a1 : ByteArray) (r1 : ByteArray) (r2 : Bool) (w : World) (h : stringslite_CutPrefix.f a0 a1 = some (r1, r2)) :
  Calls Tryz.prog 92 #[.string a0, .string a1] w fun e w' => e = .returned (.tuple #[.string r1, .bool r2]) ∧ Drawn0 w w' := by
 have H : ((stringslite_HasPrefix.f a0 a1).bind fun t122 => (if t122 = true then (if 0 ≤ (a1.size : Int) then (if (a1.size : Int) ≤ (a0.size : Int) then (some (a0.extract ((a1.size : Int) : Int).toNat a0.size, true)) else (none)) else (none)) else (some (a0, false)))) = some (r1, r2) := h
 clear h
 replace H := Option.bind_eq_some_iff.mp H
 obtain ⟨t122, A30, H⟩ := H
 replace H : (if t122 = true then (if 0 ≤ (a1.size : Int) then (if (a1.size : Int) ≤ (a0.size : Int) then (some (a0.extract ((a1.size : Int) : Int).toNat a0.size, true)) else (none)) else (none)) else (some (a0, false))) = some (r1, r2) := H
 have A3 := mk0 A30
 clear A30
 by_cases c4 : t122 = true
 ·
  subst c4
  have H1 : (if 0 ≤ (a1.size : Int) then (if (a1.size : Int) ≤ (a0.size : Int) then (some (a0.extract ((a1.size : Int) : Int).toNat a0.size, true)) else (none)) else (none)) = some (r1, r2) := by rw [if_pos rfl] at H; exact H
  clear H
  have H := H1
  clear H1
  by_cases c5 : 0 ≤ (a1.size : Int)
  ·
   rw [if_pos c5] at H
   have c5b0 := eq_true c5
   have c5b1 : decide (0 ≤ (a1.size : Int)) = true := decide_eq_true c5
   clear c5
   by_cases c6 : (a1.size : Int) ≤ (a0.size : Int)
   ·
    rw [if_pos c6] at H
    have c6b0 := eq_true c6
    have c6b1 : decide ((a1.size : Int) ≤ (a0.size : Int)) = true := decide_eq_true c6
    clear c6
    simp only [Option.some.injEq, Prod.mk.injEq] at H
    obtain ⟨rfl, rfl⟩ := H
    go_enter Tryz.func92, Tryz.ntmps92
    go_wp2_with (first | ((with_reducible refine gate_callee (f := 93) rfl ?_); refine goesL_ (some 8) rfl rfl Tryz.func93 (by kernel_rfl) rfl #[.string a0, .string a1] rfl (by (try simp only [List.map_toArray, List.map_cons, List.map_nil]); first | done | rfl | (simp only [List.length_drop, List.length_take]; rfl)) ?_; (with_reducible refine (stringslite_HasPrefix.calls a0 a1 true _ A3.out).mono ?_); rintro e w' ⟨rfl, ⟨nd, rfl⟩⟩; refine ⟨_, rfl, ?_⟩))
    go_ret2
    exact ⟨by first | rfl | (simp; done) | (simp [*]; done) | (simp; exact isEmpty_ne _), by repeat (first | exact Drawn0.refl _ | apply Drawn0.step)⟩
   ·
    rw [if_neg c6] at H
    exact absurd H (by simp)
  ·
   rw [if_neg c5] at H
   exact absurd H (by simp)
 ·
  replace c4 := Bool.eq_false_iff.mpr c4
  subst c4
  have H1 : (some (a0, false)) = some (r1, r2) := by rw [if_neg (show ¬ (false = true) by decide)] at H; exact H
  clear H
  have H := H1
  clear H1
  simp only [Option.some.injEq, Prod.mk.injEq] at H
  obtain ⟨rfl, rfl⟩ := H
  go_enter Tryz.func92, Tryz.ntmps92
  go_wp2_with (first | ((with_reducible refine gate_callee (f := 93) rfl ?_); refine goesL_ (some 8) rfl rfl Tryz.func93 (by kernel_rfl) rfl #[.string a0, .string a1] rfl (by (try simp only [List.map_toArray, List.map_cons, List.map_nil]); first | done | rfl | (simp only [List.length_drop, List.length_take]; rfl)) ?_; (with_reducible refine (stringslite_HasPrefix.calls a0 a1 false _ A3.out).mono ?_); rintro e w' ⟨rfl, ⟨nd, rfl⟩⟩; refine ⟨_, rfl, ?_⟩))
  go_ret2
  exact ⟨by first | rfl | (simp; done) | (simp [*]; done) | (simp; exact isEmpty_ne _), by repeat (first | exact Drawn0.refl _ | apply Drawn0.step)⟩

/-! ### strings_CutPrefix: function 73 -/
def strings_CutPrefix.f (a0 : ByteArray) (a1 : ByteArray) : Option (ByteArray × Bool) := (stringslite_CutPrefix.f a0 a1).bind fun bt123 => (some (bt123.1, bt123.2))
theorem strings_CutPrefix.calls (a0 : ByteArray) (a1 : ByteArray) (r1 : ByteArray) (r2 : Bool) (w : World) (h : strings_CutPrefix.f a0 a1 = some (r1, r2)) :
  Calls Tryz.prog 73 #[.string a0, .string a1] w fun e w' => e = .returned (.tuple #[.string r1, .bool r2]) ∧ Drawn0 w w' := by
 have H : ((stringslite_CutPrefix.f a0 a1).bind fun bt123 => (some (bt123.1, bt123.2))) = some (r1, r2) := h
 clear h
 replace H := Option.bind_eq_some_iff.mp H
 obtain ⟨⟨t123, t124⟩, A30, H⟩ := H
 replace H : (some (t123, t124)) = some (r1, r2) := H
 have A3 := mk0 A30
 clear A30
 simp only [Option.some.injEq, Prod.mk.injEq] at H
 obtain ⟨rfl, rfl⟩ := H
 go_enter Tryz.func73, Tryz.ntmps73
 go_wp2_with (first | ((with_reducible refine gate_callee (f := 92) rfl ?_); refine goesL_ (some 8) rfl rfl Tryz.func92 (by kernel_rfl) rfl #[.string a0, .string a1] rfl (by (try simp only [List.map_toArray, List.map_cons, List.map_nil]); first | done | rfl | (simp only [List.length_drop, List.length_take]; rfl)) ?_; (with_reducible refine (stringslite_CutPrefix.calls a0 a1 t123 t124 _ A3.out).mono ?_); rintro e w' ⟨rfl, ⟨nd, rfl⟩⟩; refine ⟨_, rfl, ?_⟩))
 go_ret2
 exact ⟨by first | rfl | (simp; done) | (simp [*]; done) | (simp; exact isEmpty_ne _), by repeat (first | exact Drawn0.refl _ | apply Drawn0.step)⟩

end Go.Proofs.YtcaegaljhogbjaaGreatDoor.B
