/- What Go functions compute, as plain Lean functions, and that the machine comes to just that: written by wip/tools/printx.py (my run of the printer, with contracts of mine beside it). -/
import Derived.Test.YtcaegaljhogbjaaGreatDoorOn
import Derived.Test.YtcaegaljhogbjaaGreatDoorQx0
namespace Go.Proofs.YtcaegaljhogbjaaGreatDoor.Q
open Go.Proofs.YtcaegaljhogbjaaGreatDoor.Ext Go.Proofs.YtcaegaljhogbjaaGreatDoor.B Go.RowKit Go.Proofs.YtcaegaljhogbjaaGreatDoorW.PrintWords Go.Proofs.YtcaegaljhogbjaaGreatDoorW.PrintLast Go.Proofs.YtcaegaljhogbjaaGreatDoorW.PrintMore
attribute [local go_sem] max2_int min2_int max_two min_two max_three min_three max_four min_four   -- for this text's walks alone
set_option linter.unusedVariables false
set_option linter.unusedSimpArgs false





/-! ### zav: function 58 -/
mutual
def zav.j0 : Nat → ByteArray → ByteArray → Bool → Bool → Option (Int × Int × Int)
 | 0, _, _, _, _ => none
 | k + 1, x4, x6, x7, x31 => if x31 = true then (some (0, 0, 5)) else (zav.l0 k x4 x6 x7 (x6.size : Int) 0)
def zav.l0 : Nat → ByteArray → ByteArray → Bool → Int → Int → Option (Int × Int × Int)
 | 0, _, _, _, _, _ => none
 | k + 1, x4, x6, x7, x34, x35 => if x35 < x34 then (if 0 ≤ x35 then (if x35 < (x6.size : Int) then (if (bt x6 x35) < 48 then (some (0, 0, 2)) else (if (bt x6 x35) > 57 then (some (0, 0, 2)) else (zav.l0 k x4 x6 x7 x34 (wrap64 (x35 + 1))))) else (none)) else (none)) else (if x7 = true then (if (x6.size : Int) > 7 then (zav.j2 k x4 x6 true) else (if 0 < (x6.size : Int) then (zav.j2 k x4 x6 ((bt x6 0) == 48)) else (none))) else (zav.j2 k x4 x6 true))
def zav.j2 : Nat → ByteArray → ByteArray → Bool → Option (Int × Int × Int)
 | 0, _, _, _ => none
 | k + 1, x4, x6, x61 => if x61 = true then (some (0, 0, 2)) else ((strconv_Atoi.f x6).bind fun bt107 => (if bt107.1 > 1000000 then (some (0, 0, 3)) else ((zbx.f x4).bind fun bt109 => (if bt109.2 = 0 then (if bt109.1 = 0 then (some (0, 0, 6)) else (some (bt107.1, bt109.1, 0))) else (some (0, 0, bt109.2))))))
end
def zav.f (k : Nat) (a0 : ByteArray) : Option (Int × Int × Int) := (strings_CutPrefix.f a0 (⟨#[82]⟩ : ByteArray)).bind fun bt102 => (if bt102.2 = true then ((strings_Cut.f bt102.1 (⟨#[47]⟩ : ByteArray)).bind fun bt104 => (if bt104.2.2 = true then (zav.j0 k bt104.2.1 bt104.1 bt104.2.2 (bt104.1.toList == ([] : List UInt8))) else (zav.j0 k bt104.2.1 bt104.1 bt104.2.2 false))) else (some (0, 0, 2)))
set_option maxHeartbeats 8000000 in
set_option maxRecDepth 100000 in
theorem zav.calls (k : Nat) (a0 : ByteArray) (r1 : Int) (r2 : Int) (r3 : Int) (w : World) (h : zav.f k a0 = some (r1, r2, r3)) :
  Calls Tryz.prog 58 #[.string a0] w fun e w' => e = .returned (.tuple #[.agg #[.int .i64 r1, .int .u64 r2], .int .i64 r3]) ∧ Below w.heap.size w w' := by
 have hu46 := Tryz.underlying46
 have HB := mk0 (Below.refl w.heap.size w)
 have H : ((strings_CutPrefix.f a0 (⟨#[82]⟩ : ByteArray)).bind fun bt102 => (if bt102.2 = true then ((strings_Cut.f bt102.1 (⟨#[47]⟩ : ByteArray)).bind fun bt104 => (if bt104.2.2 = true then (zav.j0 k bt104.2.1 bt104.1 bt104.2.2 (bt104.1.toList == ([] : List UInt8))) else (zav.j0 k bt104.2.1 bt104.1 bt104.2.2 false))) else (some (0, 0, 2)))) = some (r1, r2, r3) := h
 clear h
 replace H := Option.bind_eq_some_iff.mp H
 obtain ⟨⟨t102, t103⟩, A20, H⟩ := H
 replace H : (if t103 = true then ((strings_Cut.f t102 (⟨#[47]⟩ : ByteArray)).bind fun bt104 => (if bt104.2.2 = true then (zav.j0 k bt104.2.1 bt104.1 bt104.2.2 (bt104.1.toList == ([] : List UInt8))) else (zav.j0 k bt104.2.1 bt104.1 bt104.2.2 false))) else (some (0, 0, 2))) = some (r1, r2, r3) := H
 have A2 := mk0 A20
 clear A20
 by_cases c3 : t103 = true
 ·
  subst c3
  have H1 : ((strings_Cut.f t102 (⟨#[47]⟩ : ByteArray)).bind fun bt104 => (if bt104.2.2 = true then (zav.j0 k bt104.2.1 bt104.1 bt104.2.2 (bt104.1.toList == ([] : List UInt8))) else (zav.j0 k bt104.2.1 bt104.1 bt104.2.2 false))) = some (r1, r2, r3) := by rw [if_pos rfl] at H; exact H
  clear H
  have H := H1
  clear H1
  replace H := Option.bind_eq_some_iff.mp H
  obtain ⟨⟨t104, t105, t106⟩, A40, H⟩ := H
  replace H : (if t106 = true then (zav.j0 k t105 t104 t106 (t104.toList == ([] : List UInt8))) else (zav.j0 k t105 t104 t106 false)) = some (r1, r2, r3) := H
  have A4 := mk0 A40
  clear A40
  have HC5 := mk0 H
  clear H
  go_enter Tryz.func58, Tryz.ntmps58
  go_upto_region 5 with (first | ((with_reducible refine gate_dst (N := 2) rfl ?_); (try (refine gate_guard (by rfl) ?_; dsimp only)); refine box_event ?hg (N := 2) ?hd (cs := #[.int .i64 0, .int .u64 0]) (t := 46) ?hr ?_; (case hd => rfl); (case hg => rfl); (case hr => first | (go_simp; done) | (go_simp; rfl)); intro gb101 hg w6 hbox hb; have n0_ := mk0 (bst HB.out hb); have n1_ := mk0 (hbox); have n2_ := mk0 (gle hg HB.out); have n3_ := mk0 (gle hg HB.out); clear HB; have HB := n0_; have BK101 := n1_; have GW101 := n2_; have GE101 := n3_; clear n0_ n1_ n2_ n3_; clear hb hbox hg) | ((with_reducible refine gate_callee (f := 73) rfl ?_); refine goesL_ (some 15) rfl rfl Tryz.func73 (by kernel_rfl) rfl #[.string a0, .string (⟨#[82]⟩ : ByteArray)] rfl (by (try simp only [List.map_toArray, List.map_cons, List.map_nil]); first | done | rfl | (simp only [List.length_drop, List.length_take]; rfl)) ?_; (with_reducible refine (strings_CutPrefix.calls a0 (⟨#[82]⟩ : ByteArray) t102 true _ A2.out).mono ?_); rintro e w' ⟨rfl, ⟨nd, rfl⟩⟩; refine ⟨_, rfl, ?_⟩) | ((with_reducible refine gate_callee (f := 78) rfl ?_); refine goesL_ (some 23) rfl rfl Tryz.func78 (by kernel_rfl) rfl #[.string t102, .string (⟨#[47]⟩ : ByteArray)] rfl (by (try simp only [List.map_toArray, List.map_cons, List.map_nil]); first | done | rfl | (simp only [List.length_drop, List.length_take]; rfl)) ?_; (with_reducible refine (strings_Cut.calls t102 (⟨#[47]⟩ : ByteArray) t104 t105 t106 _ A4.out).mono ?_); rintro e w' ⟨rfl, ⟨nd, rfl⟩⟩; refine ⟨_, rfl, ?_⟩))
  (try simp only [Act.put, List.setIfInBounds_toArray, List.set_cons_zero, List.set_cons_succ])
  go_cut [31] (fun v31 wc => ∃ (kq : Nat) (x31_4 : Bool), v31 = .bool x31_4 ∧ Aside0 (zav.j0 kq t105 t104 t106 x31_4 = some (r1, r2, r3)) ∧ Aside0 (kq ≤ k) ∧ Aside0 (wc.heap[gb101]? = some (.cells #[.int .i64 0, .int .u64 0] 46 (0, 0))) ∧ Aside0 (Below w.heap.size w wc))
  case first =>
   have H := HC5.out
   clear HC5
   by_cases c7 : t106 = true
   ·
    subst c7
    have H1 : (zav.j0 k t105 t104 true (t104.toList == ([] : List UInt8))) = some (r1, r2, r3) := by rw [if_pos rfl] at H; exact H
    clear H
    have H := H1
    clear H1
    have H' := mk0 H
    clear H
    go_wp2
    go_meet
    case rel => exact ⟨_, ((t104.toList == ([] : List UInt8))), (by first | rfl | (simp; done) | (simp [*]; done)), H', ⟨by first | omega | exact Nat.le_refl _⟩, ⟨by exact obk BK101.out⟩, ⟨by exact bok HB.out⟩⟩
   ·
    replace c7 := Bool.eq_false_iff.mpr c7
    subst c7
    have H1 : (zav.j0 k t105 t104 false false) = some (r1, r2, r3) := by rw [if_neg (show ¬ (false = true) by decide)] at H; exact H
    clear H
    have H := H1
    clear H1
    have H' := mk0 H
    clear H
    go_wp2
    go_meet
    case rel => exact ⟨_, (false), (by first | rfl | (simp; done) | (simp [*]; done)), H', ⟨by first | omega | exact Nat.le_refl _⟩, ⟨by exact obk BK101.out⟩, ⟨by exact bok HB.out⟩⟩
  case rest =>
   clear HC5
   obtain ⟨kq, x31_4, rfl, HA, HJ4, BK101, HB⟩ := hcut
   cases kq with
   | zero => exact absurd HA.out (by simp [zav.j0])
   | succ kj4 =>
    have H := HA.out
    clear HA
    simp only [zav.j0] at H
    by_cases c8 : x31_4 = true
    ·
     subst c8
     have H1 : (some (0, 0, 5)) = some (r1, r2, r3) := by rw [if_pos rfl] at H; exact H
     clear H
     have H := H1
     clear H1
     simp only [Option.some.injEq, Prod.mk.injEq] at H
     obtain ⟨rfl, rfl, rfl⟩ := H
     obtain ⟨hcz9_0, hcz9_1, hfz9_0, hfz9_1⟩ := blk2 BK101.out
     go_wp2
     refine bodyPost_ret (results_ct rfl _ _ gb101 46 #[.int .i64 0, .int .u64 0] (0, 0) _ rfl (by exact obk (blk_put (obk (blk_put (obk BK101.out) 0 _ rfl)) 1 _ rfl)) Tryz.underlying46 rfl (by kernel_rfl)) rfl ?_
     exact ⟨by first | rfl | (simp [*, zbe, zbf] <;> rfl) | (simp [zbe, zbf]; exact isEmpty_ne _), by exact bok HB.out⟩
    ·
     replace c8 := Bool.eq_false_iff.mpr c8
     subst c8
     have H1 : (zav.l0 kj4 t105 t104 t106 (t104.size : Int) 0) = some (r1, r2, r3) := by rw [if_neg (show ¬ (false = true) by decide)] at H; exact H
     clear H
     have H := H1
     clear H1
     have H' := mk0 H
     clear H
     go_wp2
     go_loopg [35] kj4 (fun kq v35 w' => ∃ (x35_2 : Int) (x102000_2 : Int) (x102001_2 : Int), v35 = .int .i64 x35_2 ∧ Aside0 (zav.l0 kq t105 t104 t106 (t104.size : Int) x35_2 = some (r1, r2, r3)) ∧ Aside0 (kq ≤ kj4) ∧ Aside0 (w'.heap[gb101]? = some (.cells #[.int .i64 x102000_2, .int .u64 x102001_2] 46 (0, 0))) ∧ Aside0 (Below w.heap.size w w'))
     case atStart => exact ⟨(0), (0), (0), (by first | rfl | (simp; done) | (simp [*]; done)), H', ⟨Nat.le_refl _⟩, ⟨by exact obk BK101.out⟩, ⟨by exact bok HB.out⟩⟩
     case round =>
      clear H'
      obtain ⟨x35_2, x102000_2, x102001_2, rfl, HA, HK2, BK101, HB⟩ := hrel
      cases gk with
      | zero => exact absurd HA.out (by simp [zav.l0])
      | succ k2 =>
       have H := HA.out
       clear HA
       simp only [zav.l0] at H
       by_cases c10 : x35_2 < (t104.size : Int)
       ·
        rw [if_pos c10] at H
        have c10b0 : decide (x35_2 < (t104.size : Int)) = true := decide_eq_true c10
        clear c10
        by_cases c11 : 0 ≤ x35_2
        ·
         rw [if_pos c11] at H
         have c11b0 : decide (0 ≤ x35_2) = true := decide_eq_true c11
         clear c11
         by_cases c12 : x35_2 < (t104.size : Int)
         ·
          rw [if_pos c12] at H
          have c12b0 : decide (x35_2 < (t104.size : Int)) = true := decide_eq_true c12
          clear c12
          by_cases c14 : (bt t104 x35_2) < 48
          ·
           rw [if_pos c14] at H
           have c14b0 : decide ((bt t104 x35_2) < 48) = true := decide_eq_true c14
           clear c14
           simp only [Option.some.injEq, Prod.mk.injEq] at H
           obtain ⟨rfl, rfl, rfl⟩ := H
           have p13 : 0 ≤ (x35_2 : Int) := of_decide_eq_true (by assumption)
           have q13 : x35_2 < (t104.size : Int) := of_decide_eq_true (by assumption)
           have hx13 := bt_at t104 x35_2
           replace p13 := eq_true p13
           replace q13 := eq_true q13
           obtain ⟨hcz15_0, hcz15_1, hfz15_0, hfz15_1⟩ := blk2 BK101.out
           go_wp2
           refine bodyPost_ret (results_ct rfl _ _ gb101 46 #[.int .i64 0, .int .u64 0] (0, 0) _ rfl (by exact obk (blk_put (obk (blk_put (obk BK101.out) 0 _ rfl)) 1 _ rfl)) Tryz.underlying46 rfl (by kernel_rfl)) rfl ?_
           exact ⟨by first | rfl | (simp [*, zbe, zbf] <;> rfl) | (simp [zbe, zbf]; exact isEmpty_ne _), by exact bok HB.out⟩
          ·
           rw [if_neg c14] at H
           have c14b0 : decide ((bt t104 x35_2) < 48) = false := decide_eq_false c14
           clear c14
           by_cases c17 : (bt t104 x35_2) > 57
           ·
            rw [if_pos c17] at H
            have c17b0 : decide (57 < (bt t104 x35_2)) = true := decide_eq_true c17
            clear c17
            simp only [Option.some.injEq, Prod.mk.injEq] at H
            obtain ⟨rfl, rfl, rfl⟩ := H
            have p13 : 0 ≤ (x35_2 : Int) := of_decide_eq_true (by assumption)
            have q13 : x35_2 < (t104.size : Int) := of_decide_eq_true (by assumption)
            have hx13 := bt_at t104 x35_2
            replace p13 := eq_true p13
            replace q13 := eq_true q13
            have p16 : 0 ≤ (x35_2 : Int) := of_decide_eq_true (by assumption)
            have q16 : x35_2 < (t104.size : Int) := of_decide_eq_true (by assumption)
            have hx16 := bt_at t104 x35_2
            replace p16 := eq_true p16
            replace q16 := eq_true q16
            obtain ⟨hcz18_0, hcz18_1, hfz18_0, hfz18_1⟩ := blk2 BK101.out
            go_wp2
            refine bodyPost_ret (results_ct rfl _ _ gb101 46 #[.int .i64 0, .int .u64 0] (0, 0) _ rfl (by exact obk (blk_put (obk (blk_put (obk BK101.out) 0 _ rfl)) 1 _ rfl)) Tryz.underlying46 rfl (by kernel_rfl)) rfl ?_
            exact ⟨by first | rfl | (simp [*, zbe, zbf] <;> rfl) | (simp [zbe, zbf]; exact isEmpty_ne _), by exact bok HB.out⟩
           ·
            rw [if_neg c17] at H
            have c17b0 : decide (57 < (bt t104 x35_2)) = false := decide_eq_false c17
            clear c17
            have H' := mk0 H
            clear H
            have p13 : 0 ≤ (x35_2 : Int) := of_decide_eq_true (by assumption)
            have q13 : x35_2 < (t104.size : Int) := of_decide_eq_true (by assumption)
            have hx13 := bt_at t104 x35_2
            replace p13 := eq_true p13
            replace q13 := eq_true q13
            have p16 : 0 ≤ (x35_2 : Int) := of_decide_eq_true (by assumption)
            have q16 : x35_2 < (t104.size : Int) := of_decide_eq_true (by assumption)
            have hx16 := bt_at t104 x35_2
            replace p16 := eq_true p16
            replace q16 := eq_true q16
            go_wp2
            go_roundg k2
            case measure => have := HJ4.out; have := HK2.out; omega
            case rel => exact ⟨(wrap64 (x35_2 + 1)), (x102000_2), (x102001_2), (by first | rfl | (simp; done) | (simp [*]; done)), H', ⟨by have := HJ4.out; have := HK2.out; omega⟩, ⟨by exact obk BK101.out⟩, ⟨by exact bok HB.out⟩⟩
         ·
          rw [if_neg c12] at H
          exact absurd H (by simp)
        ·
         rw [if_neg c11] at H
         exact absurd H (by simp)
       ·
        rw [if_neg c10] at H
        have c10b0 : decide (x35_2 < (t104.size : Int)) = false := decide_eq_false c10
        clear c10
        have HC19 := mk0 H
        clear H
        go_upto_region 13 with (fail)
        go_cut [61] (fun v61 wc => ∃ (kq : Nat) (x61_18 : Bool), v61 = .bool x61_18 ∧ Aside0 (zav.j2 kq t105 t104 x61_18 = some (r1, r2, r3)) ∧ Aside0 (kq ≤ k2) ∧ Aside0 (wc.heap[gb101]? = some (.cells #[.int .i64 x102000_2, .int .u64 x102001_2] 46 (0, 0))) ∧ Aside0 (Below w.heap.size w wc))
        case first =>
         have H := HC19.out
         clear HC19
         by_cases c20 : t106 = true
         ·
          subst c20
          have H1 : (if (t104.size : Int) > 7 then (zav.j2 k2 t105 t104 true) else (if 0 < (t104.size : Int) then (zav.j2 k2 t105 t104 ((bt t104 0) == 48)) else (none))) = some (r1, r2, r3) := by rw [if_pos rfl] at H; exact H
          clear H
          have H := H1
          clear H1
          by_cases c21 : (t104.size : Int) > 7
          ·
           rw [if_pos c21] at H
           have c21b0 : decide (7 < (t104.size : Int)) = true := decide_eq_true c21
           have c21b1 : decide (7 < t104.size) = true := decide_eq_true (by omega)
           clear c21
           (first | rw [c21b0] | (simp only [i64_w, i32_w]; rw [c21b0]) | skip)
           have H' := mk0 H
           clear H
           go_wp2
           go_meet
           case rel => exact ⟨_, (true), (by first | rfl | (simp; done) | (simp [*]; done)), H', ⟨by have := HJ4.out; have := HK2.out; first | omega | exact Nat.le_refl _⟩, ⟨by exact obk BK101.out⟩, ⟨by exact bok HB.out⟩⟩
          ·
           rw [if_neg c21] at H
           have c21b0 : decide (7 < (t104.size : Int)) = false := decide_eq_false c21
           have c21b1 : decide (7 < t104.size) = false := decide_eq_false (by omega)
           clear c21
           (first | rw [c21b0] | (simp only [i64_w, i32_w]; rw [c21b0]) | skip)
           by_cases c22 : 0 < (t104.size : Int)
           ·
            rw [if_pos c22] at H
            have c22b0 : decide (0 < (t104.size : Int)) = true := decide_eq_true c22
            have c22b1 : decide (0 < t104.size) = true := decide_eq_true (by omega)
            clear c22
            have H' := mk0 H
            clear H
            have p23 : 0 ≤ (0 : Int) := (by omega)
            have q23 : 0 < t104.size := (by have : (0 : Int) < (t104.size : Int) := of_decide_eq_true (by assumption); omega)
            have hx23 : ∀ h : 0 < t104.size, ((t104[0]'h).toNat : Int) = bt t104 0 := bt_at t104 0
            clear p23
            have qi23 : (0 < (t104.size : Int)) = True := eq_true (of_decide_eq_true (by assumption))
            replace q23 := eq_true q23
            go_wp2
            go_meet
            case rel => exact ⟨_, (((bt t104 0) == 48)), (by first | rfl | (simp; done) | (simp [*]; done)), H', ⟨by have := HJ4.out; have := HK2.out; first | omega | exact Nat.le_refl _⟩, ⟨by exact obk BK101.out⟩, ⟨by exact bok HB.out⟩⟩
           ·
            rw [if_neg c22] at H
            exact absurd H (by simp)
         ·
          replace c20 := Bool.eq_false_iff.mpr c20
          subst c20
          have H1 : (zav.j2 k2 t105 t104 true) = some (r1, r2, r3) := by rw [if_neg (show ¬ (false = true) by decide)] at H; exact H
          clear H
          have H := H1
          clear H1
          have H' := mk0 H
          clear H
          go_wp2
          go_meet
          case rel => exact ⟨_, (true), (by first | rfl | (simp; done) | (simp [*]; done)), H', ⟨by have := HJ4.out; have := HK2.out; first | omega | exact Nat.le_refl _⟩, ⟨by exact obk BK101.out⟩, ⟨by exact bok HB.out⟩⟩
        case rest =>
         clear HC19
         obtain ⟨kq, x61_18, rfl, HA, HJ18, BK101, HB⟩ := hcut
         cases kq with
         | zero => exact absurd HA.out (by simp [zav.j2])
         | succ kj18 =>
          have H := HA.out
          clear HA
          simp only [zav.j2] at H
          by_cases c24 : x61_18 = true
          ·
           subst c24
           have H1 : (some (0, 0, 2)) = some (r1, r2, r3) := by rw [if_pos rfl] at H; exact H
           clear H
           have H := H1
           clear H1
           simp only [Option.some.injEq, Prod.mk.injEq] at H
           obtain ⟨rfl, rfl, rfl⟩ := H
           obtain ⟨hcz25_0, hcz25_1, hfz25_0, hfz25_1⟩ := blk2 BK101.out
           go_wp2
           refine bodyPost_ret (results_ct rfl _ _ gb101 46 #[.int .i64 0, .int .u64 0] (0, 0) _ rfl (by exact obk (blk_put (obk (blk_put (obk BK101.out) 0 _ rfl)) 1 _ rfl)) Tryz.underlying46 rfl (by kernel_rfl)) rfl ?_
           exact ⟨by first | rfl | (simp [*, zbe, zbf] <;> rfl) | (simp [zbe, zbf]; exact isEmpty_ne _), by exact bok HB.out⟩
          ·
           replace c24 := Bool.eq_false_iff.mpr c24
           subst c24
           have H1 : ((strconv_Atoi.f t104).bind fun bt107 => (if bt107.1 > 1000000 then (some (0, 0, 3)) else ((zbx.f t105).bind fun bt109 => (if bt109.2 = 0 then (if bt109.1 = 0 then (some (0, 0, 6)) else (some (bt107.1, bt109.1, 0))) else (some (0, 0, bt109.2)))))) = some (r1, r2, r3) := by rw [if_neg (show ¬ (false = true) by decide)] at H; exact H
           clear H
           have H := H1
           clear H1
           replace H := Option.bind_eq_some_iff.mp H
           obtain ⟨⟨t107, t108⟩, A260, H⟩ := H
           replace H : (if t107 > 1000000 then (some (0, 0, 3)) else ((zbx.f t105).bind fun bt109 => (if bt109.2 = 0 then (if bt109.1 = 0 then (some (0, 0, 6)) else (some (t107, bt109.1, 0))) else (some (0, 0, bt109.2))))) = some (r1, r2, r3) := H
           have A26 := mk0 A260
           clear A260
           by_cases c27 : t107 > 1000000
           ·
            rw [if_pos c27] at H
            have c27b0 : decide (1000000 < t107) = true := decide_eq_true c27
            clear c27
            simp only [Option.some.injEq, Prod.mk.injEq] at H
            obtain ⟨rfl, rfl, rfl⟩ := H
            go_wp2_with (first | ((with_reducible refine gate_callee (f := 79) rfl ?_); refine goesL_ (some 65) rfl rfl Tryz.func79 (by kernel_rfl) rfl #[.string t104] rfl (by (try simp only [List.map_toArray, List.map_cons, List.map_nil]); first | done | rfl | (simp only [List.length_drop, List.length_take]; rfl)) ?_; (with_reducible refine (strconv_Atoi.calls t104 t107 t108 _ A26.out).mono ?_); rintro e w28 ⟨rfl, hb⟩; refine ⟨_, rfl, ?_⟩; have n0_ := mk0 (blk_below (obk BK101.out) hb); have n1_ := mk0 (bst HB.out hb); clear BK101; clear HB; have BK101 := n0_; have HB := n1_; clear n0_ n1_; (try clear hb); (try simp only [zbe, zbf]); obtain ⟨hcz29_0, hcz29_1, hfz29_0, hfz29_1⟩ := blk2 BK101.out))
            refine bodyPost_ret (results_ct rfl _ _ gb101 46 #[.int .i64 0, .int .u64 0] (0, 0) _ rfl (by exact obk (blk_put (obk (blk_put (obk BK101.out) 0 _ rfl)) 1 _ rfl)) Tryz.underlying46 rfl (by kernel_rfl)) rfl ?_
            exact ⟨by first | rfl | (simp [*, zbe, zbf] <;> rfl) | (simp [zbe, zbf]; exact isEmpty_ne _), by exact bok HB.out⟩
           ·
            rw [if_neg c27] at H
            have c27b0 : decide (1000000 < t107) = false := decide_eq_false c27
            clear c27
            replace H := Option.bind_eq_some_iff.mp H
            obtain ⟨⟨t109, t110⟩, A300, H⟩ := H
            replace H : (if t110 = 0 then (if t109 = 0 then (some (0, 0, 6)) else (some (t107, t109, 0))) else (some (0, 0, t110))) = some (r1, r2, r3) := H
            have A30 := mk0 A300
            clear A300
            by_cases c31 : t110 = 0
            ·
             rw [if_pos c31] at H
             have c31b0 : (t110 == 0) = true := beq_iff_eq.mpr c31
             have c31b1 : (t110 != 0) = false := bne_eq_false_iff_eq.mpr c31
             clear c31
             by_cases c32 : t109 = 0
             ·
              rw [if_pos c32] at H
              have c32b0 : (t109 == 0) = true := beq_iff_eq.mpr c32
              have c32b1 : (t109 != 0) = false := bne_eq_false_iff_eq.mpr c32
              clear c32
              simp only [Option.some.injEq, Prod.mk.injEq] at H
              obtain ⟨rfl, rfl, rfl⟩ := H
              go_wp2_with (first | ((with_reducible refine gate_callee (f := 79) rfl ?_); refine goesL_ (some 65) rfl rfl Tryz.func79 (by kernel_rfl) rfl #[.string t104] rfl (by (try simp only [List.map_toArray, List.map_cons, List.map_nil]); first | done | rfl | (simp only [List.length_drop, List.length_take]; rfl)) ?_; (with_reducible refine (strconv_Atoi.calls t104 t107 t108 _ A26.out).mono ?_); rintro e w33 ⟨rfl, hb⟩; refine ⟨_, rfl, ?_⟩; have n0_ := mk0 (blk_below (obk BK101.out) hb); have n1_ := mk0 (bst HB.out hb); clear BK101; clear HB; have BK101 := n0_; have HB := n1_; clear n0_ n1_; (try clear hb); (try simp only [zbe, zbf])) | ((with_reducible refine gate_callee (f := 57) rfl ?_); refine goesL_ (some 73) rfl rfl Tryz.func57 (by kernel_rfl) rfl #[.string t105] rfl (by (try simp only [List.map_toArray, List.map_cons, List.map_nil]); first | done | rfl | (simp only [List.length_drop, List.length_take]; rfl)) ?_; (with_reducible refine (zbx.calls t105 t109 t110 _ A30.out).mono ?_); rintro e w34 ⟨rfl, hb⟩; refine ⟨_, rfl, ?_⟩; have n0_ := mk0 (blk_below (obk BK101.out) hb); have n1_ := mk0 (bst HB.out hb); clear BK101; clear HB; have BK101 := n0_; have HB := n1_; clear n0_ n1_; (try clear hb); obtain ⟨hcz35_0, hcz35_1, hfz35_0, hfz35_1⟩ := blk2 BK101.out))
              refine bodyPost_ret (results_ct rfl _ _ gb101 46 #[.int .i64 0, .int .u64 0] (0, 0) _ rfl (by exact obk (blk_put (obk (blk_put (obk BK101.out) 0 _ rfl)) 1 _ rfl)) Tryz.underlying46 rfl (by kernel_rfl)) rfl ?_
              exact ⟨by first | rfl | (simp [*, zbe, zbf] <;> rfl) | (simp [zbe, zbf]; exact isEmpty_ne _), by exact bok HB.out⟩
             ·
              rw [if_neg c32] at H
              have c32b0 : (t109 == 0) = false := beq_eq_false_iff_ne.mpr c32
              have c32b1 : (t109 != 0) = true := bne_iff_ne.mpr c32
              simp only [Option.some.injEq, Prod.mk.injEq] at H
              obtain ⟨rfl, rfl, rfl⟩ := H
              go_wp2_with (first | ((with_reducible refine gate_callee (f := 79) rfl ?_); refine goesL_ (some 65) rfl rfl Tryz.func79 (by kernel_rfl) rfl #[.string t104] rfl (by (try simp only [List.map_toArray, List.map_cons, List.map_nil]); first | done | rfl | (simp only [List.length_drop, List.length_take]; rfl)) ?_; (with_reducible refine (strconv_Atoi.calls t104 t107 t108 _ A26.out).mono ?_); rintro e w36 ⟨rfl, hb⟩; refine ⟨_, rfl, ?_⟩; have n0_ := mk0 (blk_below (obk BK101.out) hb); have n1_ := mk0 (bst HB.out hb); clear BK101; clear HB; have BK101 := n0_; have HB := n1_; clear n0_ n1_; (try clear hb); (try simp only [zbe, zbf])) | ((with_reducible refine gate_callee (f := 57) rfl ?_); refine goesL_ (some 73) rfl rfl Tryz.func57 (by kernel_rfl) rfl #[.string t105] rfl (by (try simp only [List.map_toArray, List.map_cons, List.map_nil]); first | done | rfl | (simp only [List.length_drop, List.length_take]; rfl)) ?_; (with_reducible refine (zbx.calls t105 t109 t110 _ A30.out).mono ?_); rintro e w37 ⟨rfl, hb⟩; refine ⟨_, rfl, ?_⟩; have n0_ := mk0 (blk_below (obk BK101.out) hb); have n1_ := mk0 (bst HB.out hb); clear BK101; clear HB; have BK101 := n0_; have HB := n1_; clear n0_ n1_; (try clear hb); obtain ⟨hcz38_0, hcz38_1, hfz38_0, hfz38_1⟩ := blk2 BK101.out))
              refine bodyPost_ret (results_ct rfl _ _ gb101 46 #[.int .i64 t107, .int .u64 t109] (0, 0) _ rfl (by exact obk (blk_put (obk (blk_put (obk BK101.out) 0 _ rfl)) 1 _ rfl)) Tryz.underlying46 rfl (by kernel_rfl)) rfl ?_
              exact ⟨by first | rfl | (simp [*, zbe, zbf] <;> rfl) | (simp [zbe, zbf]; exact isEmpty_ne _), by exact bok HB.out⟩
            ·
             rw [if_neg c31] at H
             have c31b0 : (t110 == 0) = false := beq_eq_false_iff_ne.mpr c31
             have c31b1 : (t110 != 0) = true := bne_iff_ne.mpr c31
             simp only [Option.some.injEq, Prod.mk.injEq] at H
             obtain ⟨rfl, rfl, rfl⟩ := H
             go_wp2_with (first | ((with_reducible refine gate_callee (f := 79) rfl ?_); refine goesL_ (some 65) rfl rfl Tryz.func79 (by kernel_rfl) rfl #[.string t104] rfl (by (try simp only [List.map_toArray, List.map_cons, List.map_nil]); first | done | rfl | (simp only [List.length_drop, List.length_take]; rfl)) ?_; (with_reducible refine (strconv_Atoi.calls t104 t107 t108 _ A26.out).mono ?_); rintro e w39 ⟨rfl, hb⟩; refine ⟨_, rfl, ?_⟩; have n0_ := mk0 (blk_below (obk BK101.out) hb); have n1_ := mk0 (bst HB.out hb); clear BK101; clear HB; have BK101 := n0_; have HB := n1_; clear n0_ n1_; (try clear hb); (try simp only [zbe, zbf])) | ((with_reducible refine gate_callee (f := 57) rfl ?_); refine goesL_ (some 73) rfl rfl Tryz.func57 (by kernel_rfl) rfl #[.string t105] rfl (by (try simp only [List.map_toArray, List.map_cons, List.map_nil]); first | done | rfl | (simp only [List.length_drop, List.length_take]; rfl)) ?_; (with_reducible refine (zbx.calls t105 t109 t110 _ A30.out).mono ?_); rintro e w40 ⟨rfl, hb⟩; refine ⟨_, rfl, ?_⟩; have n0_ := mk0 (blk_below (obk BK101.out) hb); have n1_ := mk0 (bst HB.out hb); clear BK101; clear HB; have BK101 := n0_; have HB := n1_; clear n0_ n1_; (try clear hb); obtain ⟨hcz41_0, hcz41_1, hfz41_0, hfz41_1⟩ := blk2 BK101.out))
             refine bodyPost_ret (results_ct rfl _ _ gb101 46 #[.int .i64 0, .int .u64 0] (0, 0) _ rfl (by exact obk (blk_put (obk (blk_put (obk BK101.out) 0 _ rfl)) 1 _ rfl)) Tryz.underlying46 rfl (by kernel_rfl)) rfl ?_
             exact ⟨by first | rfl | (simp [*, zbe, zbf] <;> rfl) | (simp [zbe, zbf]; exact isEmpty_ne _), by exact bok HB.out⟩
 ·
  replace c3 := Bool.eq_false_iff.mpr c3
  subst c3
  have H1 : (some (0, 0, 2)) = some (r1, r2, r3) := by rw [if_neg (show ¬ (false = true) by decide)] at H; exact H
  clear H
  have H := H1
  clear H1
  simp only [Option.some.injEq, Prod.mk.injEq] at H
  obtain ⟨rfl, rfl, rfl⟩ := H
  go_enter Tryz.func58, Tryz.ntmps58
  go_wp2_with (first | ((with_reducible refine gate_dst (N := 2) rfl ?_); (try (refine gate_guard (by rfl) ?_; dsimp only)); refine box_event ?hg (N := 2) ?hd (cs := #[.int .i64 0, .int .u64 0]) (t := 46) ?hr ?_; (case hd => rfl); (case hg => rfl); (case hr => first | (go_simp; done) | (go_simp; rfl)); intro gb101 hg w42 hbox hb; have n0_ := mk0 (bst HB.out hb); have n1_ := mk0 (hbox); have n2_ := mk0 (gle hg HB.out); have n3_ := mk0 (gle hg HB.out); clear HB; have HB := n0_; have BK101 := n1_; have GW101 := n2_; have GE101 := n3_; clear n0_ n1_ n2_ n3_; clear hb hbox hg) | ((with_reducible refine gate_callee (f := 73) rfl ?_); refine goesL_ (some 15) rfl rfl Tryz.func73 (by kernel_rfl) rfl #[.string a0, .string (⟨#[82]⟩ : ByteArray)] rfl (by (try simp only [List.map_toArray, List.map_cons, List.map_nil]); first | done | rfl | (simp only [List.length_drop, List.length_take]; rfl)) ?_; (with_reducible refine (strings_CutPrefix.calls a0 (⟨#[82]⟩ : ByteArray) t102 false _ A2.out).mono ?_); rintro e w' ⟨rfl, ⟨nd, rfl⟩⟩; refine ⟨_, rfl, ?_⟩; (try (rw [drewN_self w42]; generalize hq_ : World.drewN w42 _ = w42; have n0_ : Aside0 (w42.heap[gb101]? = some (.cells #[.int .i64 0, .int .u64 0] 46 (0, 0))) := ⟨by rw [← hq_]; exact (by exact obk BK101.out)⟩; have n1_ : Aside0 (Below w.heap.size w w42) := ⟨by rw [← hq_]; exact (by exact bok HB.out)⟩; clear BK101 HB hq_; have BK101 := n0_; have HB := n1_; clear n0_ n1_)); obtain ⟨hcz43_0, hcz43_1, hfz43_0, hfz43_1⟩ := blk2 BK101.out))
  refine bodyPost_ret (results_ct rfl _ _ gb101 46 #[.int .i64 0, .int .u64 0] (0, 0) _ rfl (by exact obk (blk_put (obk (blk_put (obk BK101.out) 0 _ rfl)) 1 _ rfl)) Tryz.underlying46 rfl (by kernel_rfl)) rfl ?_
  exact ⟨by first | rfl | (simp [*, zbe, zbf] <;> rfl) | (simp [zbe, zbf]; exact isEmpty_ne _), by exact bok HB.out⟩



end Go.Proofs.YtcaegaljhogbjaaGreatDoor.Q
