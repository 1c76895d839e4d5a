/- What Go functions compute, as plain Lean functions, and that the machine comes to just that: written by wip/tools/printx.py (my run of the printer, with contracts of mine beside it). -/
import Derived.Test.YtcaegaljhogbjaaGreatDoorOn
import Derived.Test.YtcaegaljhogbjaaGreatDoorQx0
import Derived.Test.YtcaegaljhogbjaaGreatDoorQx2
namespace Go.Proofs.YtcaegaljhogbjaaGreatDoor.Q
open Go.Proofs.YtcaegaljhogbjaaGreatDoor.Ext Go.Proofs.YtcaegaljhogbjaaGreatDoor.B Go.RowKit Go.Proofs.YtcaegaljhogbjaaGreatDoorW.PrintWords Go.Proofs.YtcaegaljhogbjaaGreatDoorW.PrintLast Go.Proofs.YtcaegaljhogbjaaGreatDoorW.PrintMore
attribute [local go_sem] max2_int min2_int max_two min_two max_three min_three max_four min_four   -- for this text's walks alone
set_option linter.unusedVariables false
set_option linter.unusedSimpArgs false

/-! ### zab: function 63 -/
mutual
def zab.j0 : Nat → ByteArray → Bool → Int → Int → Option (Int × Int × Int)
 | 0, _, _, _, _ => none
 | k + 1, x0, x17, x126000, x126001 => if x17 = true then (some (x126000, x126001, 2)) else (if (x0.size : Int) > 1 then (if 1 < (x0.size : Int) then (zab.j1 k x0 ((bt x0 1) == 47) x126000 x126001) else (none)) else (zab.j1 k x0 false x126000 x126001))
def zab.j1 : Nat → ByteArray → Bool → Int → Int → Option (Int × Int × Int)
 | 0, _, _, _, _ => none
 | k + 1, x0, x26, x126000, x126001 => if x26 = true then (some (x126000, x126001, 5)) else (zab.l0 k x0 1 0 x126000 x126001)
def zab.l0 : Nat → ByteArray → Int → Int → Int → Int → Option (Int × Int × Int)
 | 0, _, _, _, _, _ => none
 | k + 1, x0, x5, x6, x126000, x126001 => if x5 < (x0.size : Int) then (if 0 ≤ x5 then (if (bt x0 x5) ≥ 48 then (zab.j3 k x0 x5 x6 (decide ((bt x0 x5) ≤ 57)) x126000 x126001) else (zab.j3 k x0 x5 x6 false x126000 x126001)) else (none)) else (zab.j3 k x0 x5 x6 false x126000 x126001)
def zab.j3 : Nat → ByteArray → Int → Int → Bool → Int → Int → Option (Int × Int × Int)
 | 0, _, _, _, _, _, _ => none
 | k + 1, x0, x5, x6, x43, x126000, x126001 => if x43 = true then (if x5 < 9 then (if 0 ≤ x5 then (if x5 < (x0.size : Int) then (zab.l0 k x0 (wrap64 (x5 + 1)) (wrap64 ((wrap64 (10 * x6)) + (((bt x0 x5) - 48) % 256))) x126000 x126001) else (none)) else (none)) else (zab.l0 k x0 (wrap64 (x5 + 1)) x6 x126000 x126001)) else (if x5 = 1 then (zab.j4 k x0 x5 x6 true x126000 x126001) else (if x5 > 8 then (zab.j4 k x0 x5 x6 true x126000 x126001) else (if 1 < (x0.size : Int) then (if (bt x0 1) = 48 then (zab.j4 k x0 x5 x6 true x126000 x126001) else (if x5 = (x0.size : Int) then (zab.j4 k x0 x5 x6 true x126000 x126001) else (if 0 ≤ x5 then (if x5 < (x0.size : Int) then (zab.j4 k x0 x5 x6 ((bt x0 x5) != 47) x126000 x126001) else (none)) else (none)))) else (none))))
def zab.j4 : Nat → ByteArray → Int → Int → Bool → Int → Int → Option (Int × Int × Int)
 | 0, _, _, _, _, _, _ => none
 | k + 1, x0, x5, x6, x78, x126000, x126001 => if x78 = true then (some (x126000, x126001, 2)) else (if x6 > 1000000 then (some (x126000, x126001, 3)) else (if 0 ≤ (wrap64 (x5 + 1)) then (if (wrap64 (x5 + 1)) ≤ (x0.size : Int) then ((zaa.f k (x0.extract ((wrap64 (x5 + 1)) : Int).toNat x0.size)).bind fun bt126 => (if bt126.2 = 0 then (if bt126.1 = 0 then (some (x126000, x126001, 6)) else (some (x6, bt126.1, 0))) else (some (x126000, x126001, bt126.2)))) else (none)) else (none)))
end
def zab.f (k : Nat) (a0 : ByteArray) : Option (Int × Int × Int) := if (a0.size : Int) < 1 then (zab.j0 k a0 true 0 0) else (if 0 < (a0.size : Int) then (zab.j0 k a0 ((bt a0 0) != 82) 0 0) else (none))
set_option maxHeartbeats 8000000 in
set_option maxRecDepth 100000 in
theorem zab.calls (k : Nat) (a0 : ByteArray) (r1 : Int) (r2 : Int) (r3 : Int) (w : World) (h : zab.f k a0 = some (r1, r2, r3)) :
  Calls Tryz.prog 63 #[.string a0] w fun e w' => e = .returned (.tuple #[.agg #[.int .i64 r1, .int .u64 r2], .int .i64 r3]) ∧ Below w.heap.size w w' := by
 have hu46 := Tryz.underlying46
 have HB := mk0 (Below.refl w.heap.size w)
 have H : (if (a0.size : Int) < 1 then (zab.j0 k a0 true 0 0) else (if 0 < (a0.size : Int) then (zab.j0 k a0 ((bt a0 0) != 82) 0 0) else (none))) = some (r1, r2, r3) := h
 clear h
 have HC2 := mk0 H
 clear H
 go_enter Tryz.func63, Tryz.ntmps63
 go_upto_region 2 with (first | ((with_reducible refine gate_dst (N := 2) rfl ?_); (try (refine gate_guard (by rfl) ?_; dsimp only)); refine box_event ?hg (N := 2) ?hd (cs := #[.int .i64 0, .int .u64 0]) (t := 46) ?hr ?_; (case hd => rfl); (case hg => rfl); (case hr => first | (go_simp; done) | (go_simp; rfl)); intro gb124 hg w3 hbox hb; have n0_ := mk0 (bst HB.out hb); have n1_ := mk0 (hbox); have n2_ := mk0 (gle hg HB.out); have n3_ := mk0 (gle hg HB.out); clear HB; have HB := n0_; have BK124 := n1_; have GW124 := n2_; have GE124 := n3_; clear n0_ n1_ n2_ n3_; clear hb hbox hg) | ((with_reducible refine gate_dst (N := 4) rfl ?_); (try (refine gate_guard (by rfl) ?_; dsimp only)); refine box_event ?hg (N := 4) ?hd (cs := #[.int .i64 0, .int .u64 0]) (t := 46) ?hr ?_; (case hd => rfl); (case hg => rfl); (case hr => first | (go_simp; done) | (go_simp; rfl)); intro gb125 hg w4 hbox hb; have n0_ := mk0 (blk_below (obk BK124.out) hb); have n1_ := mk0 (bst HB.out hb); have n2_ := mk0 (hbox); have n3_ := mk0 (gle hg HB.out); have n4_ := mk0 (gle hg HB.out); have n5_ := mk0 (nlt hg BK124.out); have n6_ := mk0 (ngt hg BK124.out); clear BK124; clear HB; have BK124 := n0_; have HB := n1_; have BK125 := n2_; have GW125 := n3_; have GE125 := n4_; have NB124_125 := n5_; have NB125_124 := n6_; clear n0_ n1_ n2_ n3_ n4_ n5_ n6_; clear hb hbox hg; have hnb5 := NB125_124.out; have hnc5 := NB124_125.out; obtain ⟨hcz6_0, hcz6_1, hfz6_0, hfz6_1⟩ := blk2 BK125.out))
 (try simp only [Act.put, List.setIfInBounds_toArray, List.set_cons_zero, List.set_cons_succ])
 go_cut [17] (fun v17 wc => ∃ (kq : Nat) (x17_1 : Bool), v17 = .bool x17_1 ∧ Aside0 (zab.j0 kq a0 x17_1 0 0 = some (r1, r2, r3)) ∧ Aside0 (kq ≤ k) ∧ Aside0 (wc.heap[gb124]? = some (.cells #[.int .i64 0, .int .u64 0] 46 (0, 0))) ∧ Aside0 (wc.heap[gb125]? = some (.cells #[.int .i64 0, .int .u64 0] 46 (0, 0))) ∧ Aside0 (Below w.heap.size w wc))
 case first =>
  have H := HC2.out
  clear HC2
  by_cases c7 : (a0.size : Int) < 1
  ·
   rw [if_pos c7] at H
   have c7b0 : decide ((a0.size : Int) < 1) = true := decide_eq_true c7
   have c7b1 : decide (a0.size < 1) = true := decide_eq_true (by omega)
   clear c7
   (first | rw [c7b0] | (simp only [i64_w, i32_w]; rw [c7b0]) | skip)
   have H' := mk0 H
   clear H
   go_wp2
   go_meet
   case rel => exact ⟨_, (true), (by first | rfl | (simp; done) | (simp [*]; done)), H', ⟨by first | omega | exact Nat.le_refl _⟩, ⟨by refine obk ?_; refine blk_far ?_ NB124_125.out _; refine obk ?_; refine blk_far ?_ NB124_125.out _; exact obk BK124.out⟩, ⟨by refine obk ?_; refine blk_put (cs := #[.int .i64 0, .int .u64 0]) ?_ 1 _ rfl; refine obk ?_; refine blk_put (cs := #[.int .i64 0, .int .u64 0]) ?_ 0 _ rfl; exact obk BK125.out⟩, ⟨by exact bok HB.out⟩⟩
  ·
   rw [if_neg c7] at H
   have c7b0 : decide ((a0.size : Int) < 1) = false := decide_eq_false c7
   have c7b1 : decide (a0.size < 1) = false := decide_eq_false (by omega)
   clear c7
   (first | rw [c7b0] | (simp only [i64_w, i32_w]; rw [c7b0]) | skip)
   by_cases c8 : 0 < (a0.size : Int)
   ·
    rw [if_pos c8] at H
    have c8b0 : decide (0 < (a0.size : Int)) = true := decide_eq_true c8
    have c8b1 : decide (0 < a0.size) = true := decide_eq_true (by omega)
    clear c8
    have H' := mk0 H
    clear H
    have p9 : 0 ≤ (0 : Int) := (by omega)
    have q9 : 0 < a0.size := (by have : (0 : Int) < (a0.size : Int) := of_decide_eq_true (by assumption); omega)
    have hx9 : ∀ h : 0 < a0.size, ((a0[0]'h).toNat : Int) = bt a0 0 := bt_at a0 0
    clear p9
    have qi9 : (0 < (a0.size : Int)) = True := eq_true (of_decide_eq_true (by assumption))
    replace q9 := eq_true q9
    go_wp2
    go_meet
    case rel => exact ⟨_, (((bt a0 0) != 82)), (by first | rfl | (simp; done) | (simp [*]; done)), H', ⟨by first | omega | exact Nat.le_refl _⟩, ⟨by refine obk ?_; refine blk_far ?_ NB124_125.out _; refine obk ?_; refine blk_far ?_ NB124_125.out _; exact obk BK124.out⟩, ⟨by refine obk ?_; refine blk_put (cs := #[.int .i64 0, .int .u64 0]) ?_ 1 _ rfl; refine obk ?_; refine blk_put (cs := #[.int .i64 0, .int .u64 0]) ?_ 0 _ rfl; exact obk BK125.out⟩, ⟨by exact bok HB.out⟩⟩
   ·
    rw [if_neg c8] at H
    exact absurd H (by simp)
 case rest =>
  clear HC2
  obtain ⟨kq, x17_1, rfl, HA, HJ1, BK124, BK125, HB⟩ := hcut
  cases kq with
  | zero => exact absurd HA.out (by simp [zab.j0])
  | succ kj1 =>
   have H := HA.out
   clear HA
   simp only [zab.j0] at H
   by_cases c10 : x17_1 = true
   ·
    subst c10
    have H1 : (some (0, 0, 2)) = some (r1, r2, r3) := by rw [if_pos rfl] at H; exact H
    clear H
    have H := H1
    clear H1
    simp only [Option.some.injEq, Prod.mk.injEq] at H
    obtain ⟨rfl, rfl, rfl⟩ := H
    have hnb11 := NB125_124.out
    have hnc11 := NB124_125.out
    obtain ⟨hcz12_0, hcz12_1, hfz12_0, hfz12_1⟩ := blk2 BK125.out
    obtain ⟨hcz13_0, hcz13_1, hfz13_0, hfz13_1⟩ := blk2 BK124.out
    go_wp2
    refine bodyPost_ret (results_ct rfl _ _ gb124 46 #[.int .i64 0, .int .u64 0] (0, 0) _ rfl (by exact obk (blk_put (obk (blk_put (obk BK124.out) 0 _ rfl)) 1 _ rfl)) Tryz.underlying46 rfl (by kernel_rfl)) rfl ?_
    exact ⟨by first | rfl | (simp [*, zbe, zbf] <;> rfl) | (simp [zbe, zbf]; exact isEmpty_ne _), by exact bok HB.out⟩
   ·
    replace c10 := Bool.eq_false_iff.mpr c10
    subst c10
    have H1 : (if (a0.size : Int) > 1 then (if 1 < (a0.size : Int) then (zab.j1 kj1 a0 ((bt a0 1) == 47) 0 0) else (none)) else (zab.j1 kj1 a0 false 0 0)) = some (r1, r2, r3) := by rw [if_neg (show ¬ (false = true) by decide)] at H; exact H
    clear H
    have H := H1
    clear H1
    have HC14 := mk0 H
    clear H
    go_upto_region 4 with (fail)
    go_cut [26] (fun v26 wc => ∃ (kq : Nat) (x26_13 : Bool), v26 = .bool x26_13 ∧ Aside0 (zab.j1 kq a0 x26_13 0 0 = some (r1, r2, r3)) ∧ Aside0 (kq ≤ kj1) ∧ Aside0 (wc.heap[gb124]? = some (.cells #[.int .i64 0, .int .u64 0] 46 (0, 0))) ∧ Aside0 (wc.heap[gb125]? = some (.cells #[.int .i64 0, .int .u64 0] 46 (0, 0))) ∧ Aside0 (Below w.heap.size w wc))
    case first =>
     have H := HC14.out
     clear HC14
     by_cases c15 : (a0.size : Int) > 1
     ·
      rw [if_pos c15] at H
      have c15b0 : decide (1 < (a0.size : Int)) = true := decide_eq_true c15
      have c15b1 : decide (1 < a0.size) = true := decide_eq_true (by omega)
      clear c15
      (first | rw [c15b0] | (simp only [i64_w, i32_w]; rw [c15b0]) | skip)
      by_cases c16 : 1 < (a0.size : Int)
      ·
       rw [if_pos c16] at H
       have c16b0 : decide (1 < (a0.size : Int)) = true := decide_eq_true c16
       have c16b1 : decide (1 < a0.size) = true := decide_eq_true (by omega)
       clear c16
       have H' := mk0 H
       clear H
       have p17 : 0 ≤ (1 : Int) := (by omega)
       have q17 : 1 < a0.size := (by have : (1 : Int) < (a0.size : Int) := of_decide_eq_true (by assumption); omega)
       have hx17 : ∀ h : 1 < a0.size, ((a0[1]'h).toNat : Int) = bt a0 1 := bt_at a0 1
       clear p17
       have qi17 : (1 < (a0.size : Int)) = True := eq_true (of_decide_eq_true (by assumption))
       replace q17 := eq_true q17
       go_wp2
       go_meet
       case rel => exact ⟨_, (((bt a0 1) == 47)), (by first | rfl | (simp; done) | (simp [*]; done)), H', ⟨by have := HJ1.out; first | omega | exact Nat.le_refl _⟩, ⟨by exact obk BK124.out⟩, ⟨by exact obk BK125.out⟩, ⟨by exact bok HB.out⟩⟩
      ·
       rw [if_neg c16] at H
       exact absurd H (by simp)
     ·
      rw [if_neg c15] at H
      have c15b0 : decide (1 < (a0.size : Int)) = false := decide_eq_false c15
      have c15b1 : decide (1 < a0.size) = false := decide_eq_false (by omega)
      clear c15
      (first | rw [c15b0] | (simp only [i64_w, i32_w]; rw [c15b0]) | skip)
      have H' := mk0 H
      clear H
      go_wp2
      go_meet
      case rel => exact ⟨_, (false), (by first | rfl | (simp; done) | (simp [*]; done)), H', ⟨by have := HJ1.out; first | omega | exact Nat.le_refl _⟩, ⟨by exact obk BK124.out⟩, ⟨by exact obk BK125.out⟩, ⟨by exact bok HB.out⟩⟩
    case rest =>
     clear HC14
     obtain ⟨kq, x26_13, rfl, HA, HJ13, BK124, BK125, HB⟩ := hcut
     cases kq with
     | zero => exact absurd HA.out (by simp [zab.j1])
     | succ kj13 =>
      have H := HA.out
      clear HA
      simp only [zab.j1] at H
      by_cases c18 : x26_13 = true
      ·
       subst c18
       have H1 : (some (0, 0, 5)) = some (r1, r2, r3) := by rw [if_pos rfl] at H; exact H
       clear H
       have H := H1
       clear H1
       simp only [Option.some.injEq, Prod.mk.injEq] at H
       obtain ⟨rfl, rfl, rfl⟩ := H
       have hnb19 := NB125_124.out
       have hnc19 := NB124_125.out
       obtain ⟨hcz20_0, hcz20_1, hfz20_0, hfz20_1⟩ := blk2 BK125.out
       obtain ⟨hcz21_0, hcz21_1, hfz21_0, hfz21_1⟩ := blk2 BK124.out
       go_wp2
       refine bodyPost_ret (results_ct rfl _ _ gb124 46 #[.int .i64 0, .int .u64 0] (0, 0) _ rfl (by exact obk (blk_put (obk (blk_put (obk BK124.out) 0 _ rfl)) 1 _ rfl)) Tryz.underlying46 rfl (by kernel_rfl)) rfl ?_
       exact ⟨by first | rfl | (simp [*, zbe, zbf] <;> rfl) | (simp [zbe, zbf]; exact isEmpty_ne _), by exact bok HB.out⟩
      ·
       replace c18 := Bool.eq_false_iff.mpr c18
       subst c18
       have H1 : (zab.l0 kj13 a0 1 0 0 0) = some (r1, r2, r3) := by rw [if_neg (show ¬ (false = true) by decide)] at H; exact H
       clear H
       have H := H1
       clear H1
       have H' := mk0 H
       clear H
       go_wp2
       go_loopg [5, 6] kj13 (fun kq v5 v6 w' => ∃ (x5_3 : Int) (x6_3 : Int), v5 = .int .i64 x5_3 ∧ v6 = .int .i64 x6_3 ∧ Aside0 (zab.l0 kq a0 x5_3 x6_3 0 0 = some (r1, r2, r3)) ∧ Aside0 (kq ≤ kj13) ∧ Aside0 (w'.heap[gb124]? = some (.cells #[.int .i64 0, .int .u64 0] 46 (0, 0))) ∧ Aside0 (w'.heap[gb125]? = some (.cells #[.int .i64 0, .int .u64 0] 46 (0, 0))) ∧ Aside0 (Below w.heap.size w w'))
       case atStart => exact ⟨(1), (0), (by first | rfl | (simp; done) | (simp [*]; done)), (by first | rfl | (simp; done) | (simp [*]; done)), H', ⟨Nat.le_refl _⟩, ⟨by exact obk BK124.out⟩, ⟨by exact obk BK125.out⟩, ⟨by exact bok HB.out⟩⟩
       case round =>
        clear H'
        obtain ⟨x5_3, x6_3, rfl, rfl, HA, HK3, BK124, BK125, HB⟩ := hrel
        cases gk with
        | zero => exact absurd HA.out (by simp [zab.l0])
        | succ k3 =>
         have H := HA.out
         clear HA
         simp only [zab.l0] at H
         have HC22 := mk0 H
         clear H
         go_upto_region 7 with (fail)
         go_cut [43] (fun v43 wc => ∃ (kq : Nat) (x43_21 : Bool), v43 = .bool x43_21 ∧ Aside0 (zab.j3 kq a0 x5_3 x6_3 x43_21 0 0 = some (r1, r2, r3)) ∧ Aside0 (kq ≤ k3) ∧ Aside0 (wc.heap[gb124]? = some (.cells #[.int .i64 0, .int .u64 0] 46 (0, 0))) ∧ Aside0 (wc.heap[gb125]? = some (.cells #[.int .i64 0, .int .u64 0] 46 (0, 0))) ∧ Aside0 (Below w.heap.size w wc))
         case first =>
          have H := HC22.out
          clear HC22
          by_cases c23 : x5_3 < (a0.size : Int)
          ·
           rw [if_pos c23] at H
           have c23b0 : decide (x5_3 < (a0.size : Int)) = true := decide_eq_true c23
           clear c23
           (first | rw [c23b0] | (simp only [i64_w, i32_w]; rw [c23b0]) | skip)
           by_cases c24 : 0 ≤ x5_3
           ·
            rw [if_pos c24] at H
            have c24b0 : decide (0 ≤ x5_3) = true := decide_eq_true c24
            clear c24
            by_cases c26 : (bt a0 x5_3) ≥ 48
            ·
             rw [if_pos c26] at H
             have c26b0 : decide (48 ≤ (bt a0 x5_3)) = true := decide_eq_true c26
             clear c26
             have H' := mk0 H
             clear H
             have p25 : 0 ≤ (x5_3 : Int) := of_decide_eq_true (by assumption)
             have q25 : x5_3 < (a0.size : Int) := of_decide_eq_true (by assumption)
             have hx25 := bt_at a0 x5_3
             replace p25 := eq_true p25
             replace q25 := eq_true q25
             have p27 : 0 ≤ (x5_3 : Int) := of_decide_eq_true (by assumption)
             have q27 : x5_3 < (a0.size : Int) := of_decide_eq_true (by assumption)
             have hx27 := bt_at a0 x5_3
             replace p27 := eq_true p27
             replace q27 := eq_true q27
             go_wp2
             go_meet
             case rel => exact ⟨_, (decide ((bt a0 x5_3) ≤ 57)), (by first | rfl | (simp; done) | (simp [*]; done)), H', ⟨by have := HJ1.out; have := HJ13.out; have := HK3.out; first | omega | exact Nat.le_refl _⟩, ⟨by exact obk BK124.out⟩, ⟨by exact obk BK125.out⟩, ⟨by exact bok HB.out⟩⟩
            ·
             rw [if_neg c26] at H
             have c26b0 : decide (48 ≤ (bt a0 x5_3)) = false := decide_eq_false c26
             clear c26
             have H' := mk0 H
             clear H
             have p25 : 0 ≤ (x5_3 : Int) := of_decide_eq_true (by assumption)
             have q25 : x5_3 < (a0.size : Int) := of_decide_eq_true (by assumption)
             have hx25 := bt_at a0 x5_3
             replace p25 := eq_true p25
             replace q25 := eq_true q25
             go_wp2
             go_meet
             case rel => exact ⟨_, (false), (by first | rfl | (simp; done) | (simp [*]; done)), H', ⟨by have := HJ1.out; have := HJ13.out; have := HK3.out; first | omega | exact Nat.le_refl _⟩, ⟨by exact obk BK124.out⟩, ⟨by exact obk BK125.out⟩, ⟨by exact bok HB.out⟩⟩
           ·
            rw [if_neg c24] at H
            exact absurd H (by simp)
          ·
           rw [if_neg c23] at H
           have c23b0 : decide (x5_3 < (a0.size : Int)) = false := decide_eq_false c23
           clear c23
           (first | rw [c23b0] | (simp only [i64_w, i32_w]; rw [c23b0]) | skip)
           have H' := mk0 H
           clear H
           go_wp2
           go_meet
           case rel => exact ⟨_, (false), (by first | rfl | (simp; done) | (simp [*]; done)), H', ⟨by have := HJ1.out; have := HJ13.out; have := HK3.out; first | omega | exact Nat.le_refl _⟩, ⟨by exact obk BK124.out⟩, ⟨by exact obk BK125.out⟩, ⟨by exact bok HB.out⟩⟩
         case rest =>
          clear HC22
          obtain ⟨kq, x43_21, rfl, HA, HJ21, BK124, BK125, HB⟩ := hcut
          cases kq with
          | zero => exact absurd HA.out (by simp [zab.j3])
          | succ kj21 =>
           have H := HA.out
           clear HA
           simp only [zab.j3] at H
           by_cases c28 : x43_21 = true
           ·
            subst c28
            have H1 : (if x5_3 < 9 then (if 0 ≤ x5_3 then (if x5_3 < (a0.size : Int) then (zab.l0 kj21 a0 (wrap64 (x5_3 + 1)) (wrap64 ((wrap64 (10 * x6_3)) + (((bt a0 x5_3) - 48) % 256))) 0 0) else (none)) else (none)) else (zab.l0 kj21 a0 (wrap64 (x5_3 + 1)) x6_3 0 0)) = some (r1, r2, r3) := by rw [if_pos rfl] at H; exact H
            clear H
            have H := H1
            clear H1
            by_cases c29 : x5_3 < 9
            ·
             rw [if_pos c29] at H
             have c29b0 : decide (x5_3 < 9) = true := decide_eq_true c29
             clear c29
             by_cases c30 : 0 ≤ x5_3
             ·
              rw [if_pos c30] at H
              have c30b0 : decide (0 ≤ x5_3) = true := decide_eq_true c30
              clear c30
              by_cases c31 : x5_3 < (a0.size : Int)
              ·
               rw [if_pos c31] at H
               have c31b0 : decide (x5_3 < (a0.size : Int)) = true := decide_eq_true c31
               clear c31
               have H' := mk0 H
               clear H
               have p32 : 0 ≤ (x5_3 : Int) := of_decide_eq_true (by assumption)
               have q32 : x5_3 < (a0.size : Int) := of_decide_eq_true (by assumption)
               have hx32 := bt_at a0 x5_3
               replace p32 := eq_true p32
               replace q32 := eq_true q32
               go_wp2
               go_roundg kj21
               case measure => have := HJ1.out; have := HJ13.out; have := HK3.out; have := HJ21.out; omega
               case rel => exact ⟨(wrap64 (x5_3 + 1)), (wrap64 ((wrap64 (10 * x6_3)) + (((bt a0 x5_3) - 48) % 256))), (by first | rfl | (simp; done) | (simp [*]; done)), (by first | rfl | (simp; done) | (simp [*]; done)), H', ⟨by have := HJ1.out; have := HJ13.out; have := HK3.out; have := HJ21.out; omega⟩, ⟨by exact obk BK124.out⟩, ⟨by exact obk BK125.out⟩, ⟨by exact bok HB.out⟩⟩
              ·
               rw [if_neg c31] at H
               exact absurd H (by simp)
             ·
              rw [if_neg c30] at H
              exact absurd H (by simp)
            ·
             rw [if_neg c29] at H
             have c29b0 : decide (x5_3 < 9) = false := decide_eq_false c29
             clear c29
             have H' := mk0 H
             clear H
             go_wp2
             go_roundg kj21
             case measure => have := HJ1.out; have := HJ13.out; have := HK3.out; have := HJ21.out; omega
             case rel => exact ⟨(wrap64 (x5_3 + 1)), (x6_3), (by first | rfl | (simp; done) | (simp [*]; done)), (by first | rfl | (simp; done) | (simp [*]; done)), H', ⟨by have := HJ1.out; have := HJ13.out; have := HK3.out; have := HJ21.out; omega⟩, ⟨by exact obk BK124.out⟩, ⟨by exact obk BK125.out⟩, ⟨by exact bok HB.out⟩⟩
           ·
            replace c28 := Bool.eq_false_iff.mpr c28
            subst c28
            have H1 : (if x5_3 = 1 then (zab.j4 kj21 a0 x5_3 x6_3 true 0 0) else (if x5_3 > 8 then (zab.j4 kj21 a0 x5_3 x6_3 true 0 0) else (if 1 < (a0.size : Int) then (if (bt a0 1) = 48 then (zab.j4 kj21 a0 x5_3 x6_3 true 0 0) else (if x5_3 = (a0.size : Int) then (zab.j4 kj21 a0 x5_3 x6_3 true 0 0) else (if 0 ≤ x5_3 then (if x5_3 < (a0.size : Int) then (zab.j4 kj21 a0 x5_3 x6_3 ((bt a0 x5_3) != 47) 0 0) else (none)) else (none)))) else (none)))) = some (r1, r2, r3) := by rw [if_neg (show ¬ (false = true) by decide)] at H; exact H
            clear H
            have H := H1
            clear H1
            have HC33 := mk0 H
            clear H
            go_upto_region 11 with (fail)
            go_cut [78] (fun v78 wc => ∃ (kq : Nat) (x78_32 : Bool), v78 = .bool x78_32 ∧ Aside0 (zab.j4 kq a0 x5_3 x6_3 x78_32 0 0 = some (r1, r2, r3)) ∧ Aside0 (kq ≤ kj21) ∧ Aside0 (wc.heap[gb124]? = some (.cells #[.int .i64 0, .int .u64 0] 46 (0, 0))) ∧ Aside0 (wc.heap[gb125]? = some (.cells #[.int .i64 0, .int .u64 0] 46 (0, 0))) ∧ Aside0 (Below w.heap.size w wc))
            case first =>
             have H := HC33.out
             clear HC33
             by_cases c34 : x5_3 = 1
             ·
              rw [if_pos c34] at H
              have c34b0 : (x5_3 == 1) = true := beq_iff_eq.mpr c34
              have c34b1 : (x5_3 != 1) = false := bne_eq_false_iff_eq.mpr c34
              clear c34
              (first | rw [c34b0] | (simp only [i64_w, i32_w]; rw [c34b0]) | skip)
              have H' := mk0 H
              clear H
              go_wp2
              go_meet
              case rel => exact ⟨_, (true), (by first | rfl | (simp; done) | (simp [*]; done)), H', ⟨by have := HJ1.out; have := HJ13.out; have := HK3.out; have := HJ21.out; first | omega | exact Nat.le_refl _⟩, ⟨by exact obk BK124.out⟩, ⟨by exact obk BK125.out⟩, ⟨by exact bok HB.out⟩⟩
             ·
              rw [if_neg c34] at H
              have c34b0 : (x5_3 == 1) = false := beq_eq_false_iff_ne.mpr c34
              have c34b1 : (x5_3 != 1) = true := bne_iff_ne.mpr c34
              (first | rw [c34b0] | (simp only [i64_w, i32_w]; rw [c34b0]) | skip)
              by_cases c35 : x5_3 > 8
              ·
               rw [if_pos c35] at H
               have c35b0 : decide (8 < x5_3) = true := decide_eq_true c35
               clear c35
               have H' := mk0 H
               clear H
               go_wp2
               go_meet
               case rel => exact ⟨_, (true), (by first | rfl | (simp; done) | (simp [*]; done)), H', ⟨by have := HJ1.out; have := HJ13.out; have := HK3.out; have := HJ21.out; first | omega | exact Nat.le_refl _⟩, ⟨by exact obk BK124.out⟩, ⟨by exact obk BK125.out⟩, ⟨by exact bok HB.out⟩⟩
              ·
               rw [if_neg c35] at H
               have c35b0 : decide (8 < x5_3) = false := decide_eq_false c35
               clear c35
               by_cases c36 : 1 < (a0.size : Int)
               ·
                rw [if_pos c36] at H
                have c36b0 : decide (1 < (a0.size : Int)) = true := decide_eq_true c36
                have c36b1 : decide (1 < a0.size) = true := decide_eq_true (by omega)
                clear c36
                by_cases c38 : (bt a0 1) = 48
                ·
                 rw [if_pos c38] at H
                 have c38b0 : ((bt a0 1) == 48) = true := beq_iff_eq.mpr c38
                 have c38b1 : ((bt a0 1) != 48) = false := bne_eq_false_iff_eq.mpr c38
                 clear c38
                 have H' := mk0 H
                 clear H
                 have p37 : 0 ≤ (1 : Int) := (by omega)
                 have q37 : 1 < a0.size := (by have : (1 : Int) < (a0.size : Int) := of_decide_eq_true (by assumption); omega)
                 have hx37 : ∀ h : 1 < a0.size, ((a0[1]'h).toNat : Int) = bt a0 1 := bt_at a0 1
                 clear p37
                 have qi37 : (1 < (a0.size : Int)) = True := eq_true (of_decide_eq_true (by assumption))
                 replace q37 := eq_true q37
                 go_wp2
                 go_meet
                 case rel => exact ⟨_, (true), (by first | rfl | (simp; done) | (simp [*]; done)), H', ⟨by have := HJ1.out; have := HJ13.out; have := HK3.out; have := HJ21.out; first | omega | exact Nat.le_refl _⟩, ⟨by exact obk BK124.out⟩, ⟨by exact obk BK125.out⟩, ⟨by exact bok HB.out⟩⟩
                ·
                 rw [if_neg c38] at H
                 have c38b0 : ((bt a0 1) == 48) = false := beq_eq_false_iff_ne.mpr c38
                 have c38b1 : ((bt a0 1) != 48) = true := bne_iff_ne.mpr c38
                 by_cases c39 : x5_3 = (a0.size : Int)
                 ·
                  rw [if_pos c39] at H
                  have c39b0 : (x5_3 == (a0.size : Int)) = true := beq_iff_eq.mpr c39
                  have c39b1 : (x5_3 != (a0.size : Int)) = false := bne_eq_false_iff_eq.mpr c39
                  clear c39
                  have H' := mk0 H
                  clear H
                  have p37 : 0 ≤ (1 : Int) := (by omega)
                  have q37 : 1 < a0.size := (by have : (1 : Int) < (a0.size : Int) := of_decide_eq_true (by assumption); omega)
                  have hx37 : ∀ h : 1 < a0.size, ((a0[1]'h).toNat : Int) = bt a0 1 := bt_at a0 1
                  clear p37
                  have qi37 : (1 < (a0.size : Int)) = True := eq_true (of_decide_eq_true (by assumption))
                  replace q37 := eq_true q37
                  go_wp2
                  go_meet
                  case rel => exact ⟨_, (true), (by first | rfl | (simp; done) | (simp [*]; done)), H', ⟨by have := HJ1.out; have := HJ13.out; have := HK3.out; have := HJ21.out; first | omega | exact Nat.le_refl _⟩, ⟨by exact obk BK124.out⟩, ⟨by exact obk BK125.out⟩, ⟨by exact bok HB.out⟩⟩
                 ·
                  rw [if_neg c39] at H
                  have c39b0 : (x5_3 == (a0.size : Int)) = false := beq_eq_false_iff_ne.mpr c39
                  have c39b1 : (x5_3 != (a0.size : Int)) = true := bne_iff_ne.mpr c39
                  by_cases c40 : 0 ≤ x5_3
                  ·
                   rw [if_pos c40] at H
                   have c40b0 : decide (0 ≤ x5_3) = true := decide_eq_true c40
                   clear c40
                   by_cases c41 : x5_3 < (a0.size : Int)
                   ·
                    rw [if_pos c41] at H
                    have c41b0 : decide (x5_3 < (a0.size : Int)) = true := decide_eq_true c41
                    clear c41
                    have H' := mk0 H
                    clear H
                    have p37 : 0 ≤ (1 : Int) := (by omega)
                    have q37 : 1 < a0.size := (by have : (1 : Int) < (a0.size : Int) := of_decide_eq_true (by assumption); omega)
                    have hx37 : ∀ h : 1 < a0.size, ((a0[1]'h).toNat : Int) = bt a0 1 := bt_at a0 1
                    clear p37
                    have qi37 : (1 < (a0.size : Int)) = True := eq_true (of_decide_eq_true (by assumption))
                    replace q37 := eq_true q37
                    have p42 : 0 ≤ (x5_3 : Int) := of_decide_eq_true (by assumption)
                    have q42 : x5_3 < (a0.size : Int) := of_decide_eq_true (by assumption)
                    have hx42 := bt_at a0 x5_3
                    replace p42 := eq_true p42
                    replace q42 := eq_true q42
                    go_wp2
                    go_meet
                    case rel => exact ⟨_, (((bt a0 x5_3) != 47)), (by first | rfl | (simp; done) | (simp [*]; done)), H', ⟨by have := HJ1.out; have := HJ13.out; have := HK3.out; have := HJ21.out; first | omega | exact Nat.le_refl _⟩, ⟨by exact obk BK124.out⟩, ⟨by exact obk BK125.out⟩, ⟨by exact bok HB.out⟩⟩
                   ·
                    rw [if_neg c41] at H
                    exact absurd H (by simp)
                  ·
                   rw [if_neg c40] at H
                   exact absurd H (by simp)
               ·
                rw [if_neg c36] at H
                exact absurd H (by simp)
            case rest =>
             clear HC33
             obtain ⟨kq, x78_32, rfl, HA, HJ32, BK124, BK125, HB⟩ := hcut
             cases kq with
             | zero => exact absurd HA.out (by simp [zab.j4])
             | succ kj32 =>
              have H := HA.out
              clear HA
              simp only [zab.j4] at H
              by_cases c43 : x78_32 = true
              ·
               subst c43
               have H1 : (some (0, 0, 2)) = some (r1, r2, r3) := by rw [if_pos rfl] at H; exact H
               clear H
               have H := H1
               clear H1
               simp only [Option.some.injEq, Prod.mk.injEq] at H
               obtain ⟨rfl, rfl, rfl⟩ := H
               have hnb44 := NB125_124.out
               have hnc44 := NB124_125.out
               obtain ⟨hcz45_0, hcz45_1, hfz45_0, hfz45_1⟩ := blk2 BK125.out
               obtain ⟨hcz46_0, hcz46_1, hfz46_0, hfz46_1⟩ := blk2 BK124.out
               go_wp2
               refine bodyPost_ret (results_ct rfl _ _ gb124 46 #[.int .i64 0, .int .u64 0] (0, 0) _ rfl (by exact obk (blk_put (obk (blk_put (obk BK124.out) 0 _ rfl)) 1 _ rfl)) Tryz.underlying46 rfl (by kernel_rfl)) rfl ?_
               exact ⟨by first | rfl | (simp [*, zbe, zbf] <;> rfl) | (simp [zbe, zbf]; exact isEmpty_ne _), by exact bok HB.out⟩
              ·
               replace c43 := Bool.eq_false_iff.mpr c43
               subst c43
               have H1 : (if x6_3 > 1000000 then (some (0, 0, 3)) else (if 0 ≤ (wrap64 (x5_3 + 1)) then (if (wrap64 (x5_3 + 1)) ≤ (a0.size : Int) then ((zaa.f kj32 (a0.extract ((wrap64 (x5_3 + 1)) : Int).toNat a0.size)).bind fun bt126 => (if bt126.2 = 0 then (if bt126.1 = 0 then (some (0, 0, 6)) else (some (x6_3, bt126.1, 0))) else (some (0, 0, bt126.2)))) else (none)) else (none))) = some (r1, r2, r3) := by rw [if_neg (show ¬ (false = true) by decide)] at H; exact H
               clear H
               have H := H1
               clear H1
               by_cases c47 : x6_3 > 1000000
               ·
                rw [if_pos c47] at H
                have c47b0 : decide (1000000 < x6_3) = true := decide_eq_true c47
                clear c47
                simp only [Option.some.injEq, Prod.mk.injEq] at H
                obtain ⟨rfl, rfl, rfl⟩ := H
                have hnb48 := NB125_124.out
                have hnc48 := NB124_125.out
                obtain ⟨hcz49_0, hcz49_1, hfz49_0, hfz49_1⟩ := blk2 BK125.out
                obtain ⟨hcz50_0, hcz50_1, hfz50_0, hfz50_1⟩ := blk2 BK124.out
                go_wp2
                refine bodyPost_ret (results_ct rfl _ _ gb124 46 #[.int .i64 0, .int .u64 0] (0, 0) _ rfl (by exact obk (blk_put (obk (blk_put (obk BK124.out) 0 _ rfl)) 1 _ rfl)) Tryz.underlying46 rfl (by kernel_rfl)) rfl ?_
                exact ⟨by first | rfl | (simp [*, zbe, zbf] <;> rfl) | (simp [zbe, zbf]; exact isEmpty_ne _), by exact bok HB.out⟩
               ·
                rw [if_neg c47] at H
                have c47b0 : decide (1000000 < x6_3) = false := decide_eq_false c47
                clear c47
                obtain ⟨ji51, hji51⟩ : ∃ j_ : Int, (wrap64 (x5_3 + 1)) = j_ := ⟨_, rfl⟩
                replace H : (if 0 ≤ (ji51) then (if (ji51) ≤ (a0.size : Int) then ((zaa.f kj32 (a0.extract ((ji51) : Int).toNat a0.size)).bind fun bt126 => (if bt126.2 = 0 then (if bt126.1 = 0 then (some (0, 0, 6)) else (some (x6_3, bt126.1, 0))) else (some (0, 0, bt126.2)))) else (none)) else (none)) = some (r1, r2, r3) := by first | (rw [hji51] at H; exact H) | (simp only [hji51] at H ⊢; exact H)
                have hji51w : (IntKind.i64.wrap (x5_3 + 1)) = ji51 := (i64_w _).trans hji51
                by_cases c52 : 0 ≤ (ji51)
                ·
                 rw [if_pos c52] at H
                 have c52b0 := eq_true c52
                 have c52b1 : decide (0 ≤ (ji51)) = true := decide_eq_true c52
                 clear c52
                 by_cases c53 : (ji51) ≤ (a0.size : Int)
                 ·
                  rw [if_pos c53] at H
                  have c53b0 := eq_true c53
                  have c53b1 : decide ((ji51) ≤ (a0.size : Int)) = true := decide_eq_true c53
                  clear c53
                  replace H := Option.bind_eq_some_iff.mp H
                  obtain ⟨⟨t126, t127⟩, A540, H⟩ := H
                  replace H : (if t127 = 0 then (if t126 = 0 then (some (0, 0, 6)) else (some (x6_3, t126, 0))) else (some (0, 0, t127))) = some (r1, r2, r3) := H
                  have A54 := mk0 A540
                  clear A540
                  by_cases c55 : t127 = 0
                  ·
                   rw [if_pos c55] at H
                   have c55b0 : (t127 == 0) = true := beq_iff_eq.mpr c55
                   have c55b1 : (t127 != 0) = false := bne_eq_false_iff_eq.mpr c55
                   clear c55
                   by_cases c56 : t126 = 0
                   ·
                    rw [if_pos c56] at H
                    have c56b0 : (t126 == 0) = true := beq_iff_eq.mpr c56
                    have c56b1 : (t126 != 0) = false := bne_eq_false_iff_eq.mpr c56
                    clear c56
                    simp only [Option.some.injEq, Prod.mk.injEq] at H
                    obtain ⟨rfl, rfl, rfl⟩ := H
                    go_wp2_with (first | ((with_reducible refine gate_callee (f := 85) rfl ?_); refine goesL_ (some 88) rfl rfl Tryz.func85 (by kernel_rfl) rfl #[.string (a0.extract ((ji51) : Int).toNat a0.size)] rfl (by (try simp only [List.map_toArray, List.map_cons, List.map_nil]); first | done | (simp only [hji51]; rfl) | rfl | (simp only [List.length_drop, List.length_take]; rfl)) ?_; (with_reducible refine (zaa.calls kj32 (a0.extract ((ji51) : Int).toNat a0.size) t126 t127 _ A54.out).mono ?_); rintro e w57 ⟨rfl, hb⟩; refine ⟨_, rfl, ?_⟩; have n0_ := mk0 (blk_below (obk BK124.out) hb); have n1_ := mk0 (blk_below (obk BK125.out) hb); have n2_ := mk0 (bst HB.out hb); clear BK124; clear BK125; clear HB; have BK124 := n0_; have BK125 := n1_; have HB := n2_; clear n0_ n1_ n2_; (try clear hb); have hnb58 := NB125_124.out; have hnc58 := NB124_125.out; obtain ⟨hcz59_0, hcz59_1, hfz59_0, hfz59_1⟩ := blk2 BK125.out; obtain ⟨hcz60_0, hcz60_1, hfz60_0, hfz60_1⟩ := blk2 BK124.out))
                    refine bodyPost_ret (results_ct rfl _ _ gb124 46 #[.int .i64 0, .int .u64 0] (0, 0) _ rfl (by exact obk (blk_put (obk (blk_put (obk BK124.out) 0 _ rfl)) 1 _ rfl)) Tryz.underlying46 rfl (by kernel_rfl)) rfl ?_
                    exact ⟨by first | rfl | (simp [zbe, zbf] <;> rfl) | (simp only [← hji51]; first | rfl | (simp [zbe, zbf] <;> rfl)) | (simp [*, zbe, zbf] <;> rfl) | (simp [zbe, zbf]; exact isEmpty_ne _), by exact bok HB.out⟩
                   ·
                    rw [if_neg c56] at H
                    have c56b0 : (t126 == 0) = false := beq_eq_false_iff_ne.mpr c56
                    have c56b1 : (t126 != 0) = true := bne_iff_ne.mpr c56
                    simp only [Option.some.injEq, Prod.mk.injEq] at H
                    obtain ⟨rfl, rfl, rfl⟩ := H
                    go_wp2_with (first | ((with_reducible refine gate_callee (f := 85) rfl ?_); refine goesL_ (some 88) rfl rfl Tryz.func85 (by kernel_rfl) rfl #[.string (a0.extract ((ji51) : Int).toNat a0.size)] rfl (by (try simp only [List.map_toArray, List.map_cons, List.map_nil]); first | done | (simp only [hji51]; rfl) | rfl | (simp only [List.length_drop, List.length_take]; rfl)) ?_; (with_reducible refine (zaa.calls kj32 (a0.extract ((ji51) : Int).toNat a0.size) t126 t127 _ A54.out).mono ?_); rintro e w61 ⟨rfl, hb⟩; refine ⟨_, rfl, ?_⟩; have n0_ := mk0 (blk_below (obk BK124.out) hb); have n1_ := mk0 (blk_below (obk BK125.out) hb); have n2_ := mk0 (bst HB.out hb); clear BK124; clear BK125; clear HB; have BK124 := n0_; have BK125 := n1_; have HB := n2_; clear n0_ n1_ n2_; (try clear hb); have hnb62 := NB124_125.out; have hnc62 := NB125_124.out; obtain ⟨hcz63_0, hcz63_1, hfz63_0, hfz63_1⟩ := blk2 BK124.out))
                    refine bodyPost_ret (results_ct rfl _ _ gb124 46 #[.int .i64 x6_3, .int .u64 t126] (0, 0) _ rfl (by exact obk (blk_put (obk (blk_put (obk BK124.out) 0 _ rfl)) 1 _ rfl)) Tryz.underlying46 rfl (by kernel_rfl)) rfl ?_
                    exact ⟨by first | rfl | (simp [zbe, zbf] <;> rfl) | (simp only [← hji51]; first | rfl | (simp [zbe, zbf] <;> rfl)) | (simp [*, zbe, zbf] <;> rfl) | (simp [zbe, zbf]; exact isEmpty_ne _), by exact bok HB.out⟩
                  ·
                   rw [if_neg c55] at H
                   have c55b0 : (t127 == 0) = false := beq_eq_false_iff_ne.mpr c55
                   have c55b1 : (t127 != 0) = true := bne_iff_ne.mpr c55
                   simp only [Option.some.injEq, Prod.mk.injEq] at H
                   obtain ⟨rfl, rfl, rfl⟩ := H
                   go_wp2_with (first | ((with_reducible refine gate_callee (f := 85) rfl ?_); refine goesL_ (some 88) rfl rfl Tryz.func85 (by kernel_rfl) rfl #[.string (a0.extract ((ji51) : Int).toNat a0.size)] rfl (by (try simp only [List.map_toArray, List.map_cons, List.map_nil]); first | done | (simp only [hji51]; rfl) | rfl | (simp only [List.length_drop, List.length_take]; rfl)) ?_; (with_reducible refine (zaa.calls kj32 (a0.extract ((ji51) : Int).toNat a0.size) t126 t127 _ A54.out).mono ?_); rintro e w64 ⟨rfl, hb⟩; refine ⟨_, rfl, ?_⟩; have n0_ := mk0 (blk_below (obk BK124.out) hb); have n1_ := mk0 (blk_below (obk BK125.out) hb); have n2_ := mk0 (bst HB.out hb); clear BK124; clear BK125; clear HB; have BK124 := n0_; have BK125 := n1_; have HB := n2_; clear n0_ n1_ n2_; (try clear hb); have hnb65 := NB125_124.out; have hnc65 := NB124_125.out; obtain ⟨hcz66_0, hcz66_1, hfz66_0, hfz66_1⟩ := blk2 BK125.out; obtain ⟨hcz67_0, hcz67_1, hfz67_0, hfz67_1⟩ := blk2 BK124.out))
                   refine bodyPost_ret (results_ct rfl _ _ gb124 46 #[.int .i64 0, .int .u64 0] (0, 0) _ rfl (by exact obk (blk_put (obk (blk_put (obk BK124.out) 0 _ rfl)) 1 _ rfl)) Tryz.underlying46 rfl (by kernel_rfl)) rfl ?_
                   exact ⟨by first | rfl | (simp [zbe, zbf] <;> rfl) | (simp only [← hji51]; first | rfl | (simp [zbe, zbf] <;> rfl)) | (simp [*, zbe, zbf] <;> rfl) | (simp [zbe, zbf]; exact isEmpty_ne _), by exact bok HB.out⟩
                 ·
                  rw [if_neg c53] at H
                  exact absurd H (by simp)
                ·
                 rw [if_neg c52] at H
                 exact absurd H (by simp)

end Go.Proofs.YtcaegaljhogbjaaGreatDoor.Q
