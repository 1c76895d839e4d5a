/- What Go functions compute, as plain Lean functions, and that the machine comes to just that: written by wip/tools/printx.py (my run of the printer, with contracts of mine beside it). -/
import Derived.Test.YtjkdibkgmfnkdaaDoorQx0
import Derived.Test.YtjkdibkgmfnkdaaDoorQx4
namespace Go.Proofs.YtjkdibkgmfnkdaaDoor.Q
open Go.Proofs.YtjkdibkgmfnkdaaDoor.Ext Go.Proofs.YtjkdibkgmfnkdaaDoor.B Go.RowKit Go.Proofs.YtjkdibkgmfnkdaaDoorW.PrintWords Go.Proofs.YtjkdibkgmfnkdaaDoorW.PrintLast Go.Proofs.YtjkdibkgmfnkdaaDoorW.PrintMore
attribute [local go_sem] max2_int min2_int max_two min_two max_three min_three max_four min_four   -- for this text's walks alone
set_option linter.unusedVariables false
set_option linter.unusedSimpArgs false

/-! ### remontoirref03_Parse: function 10 -/
mutual
def remontoirref03_Parse.j0 : Nat → ByteArray → Bool → Int → Int → Option (Int × Int × Int)
  | 0, _, _, _, _ => none
  | k + 1, x0, x17, x154000, x154001 => if x17 = true then (some (x154000, x154001, 2)) else (if (x0.size : Int) > 1 then (if 1 < (x0.size : Int) then (remontoirref03_Parse.j1 k x0 ((bt x0 1) == 47) x154000 x154001) else (none)) else (remontoirref03_Parse.j1 k x0 false x154000 x154001))
def remontoirref03_Parse.j1 : Nat → ByteArray → Bool → Int → Int → Option (Int × Int × Int)
  | 0, _, _, _, _ => none
  | k + 1, x0, x26, x154000, x154001 => if x26 = true then (some (x154000, x154001, 5)) else (remontoirref03_Parse.l0 k x0 1 0 x154000 x154001)
def remontoirref03_Parse.l0 : Nat → ByteArray → Int → Int → Int → Int → Option (Int × Int × Int)
  | 0, _, _, _, _, _ => none
  | k + 1, x0, x5, x6, x154000, x154001 => if x5 < (x0.size : Int) then (if 0 ≤ x5 then (if (bt x0 x5) ≥ 48 then (remontoirref03_Parse.j3 k x0 x5 x6 (decide ((bt x0 x5) ≤ 57)) x154000 x154001) else (remontoirref03_Parse.j3 k x0 x5 x6 false x154000 x154001)) else (none)) else (remontoirref03_Parse.j3 k x0 x5 x6 false x154000 x154001)
def remontoirref03_Parse.j3 : Nat → ByteArray → Int → Int → Bool → Int → Int → Option (Int × Int × Int)
  | 0, _, _, _, _, _, _ => none
  | k + 1, x0, x5, x6, x43, x154000, x154001 => if x43 = true then (if x5 < 9 then (if 0 ≤ x5 then (if x5 < (x0.size : Int) then (remontoirref03_Parse.l0 k x0 (wrap64 (x5 + 1)) (wrap64 ((wrap64 (10 * x6)) + (((bt x0 x5) - 48) % 256))) x154000 x154001) else (none)) else (none)) else (remontoirref03_Parse.l0 k x0 (wrap64 (x5 + 1)) x6 x154000 x154001)) else (if x5 = 1 then (remontoirref03_Parse.j4 k x0 x5 x6 true x154000 x154001) else (if x5 > 8 then (remontoirref03_Parse.j4 k x0 x5 x6 true x154000 x154001) else (if 1 < (x0.size : Int) then (if (bt x0 1) = 48 then (remontoirref03_Parse.j4 k x0 x5 x6 true x154000 x154001) else (if x5 = (x0.size : Int) then (remontoirref03_Parse.j4 k x0 x5 x6 true x154000 x154001) else (if 0 ≤ x5 then (if x5 < (x0.size : Int) then (remontoirref03_Parse.j4 k x0 x5 x6 ((bt x0 x5) != 47) x154000 x154001) else (none)) else (none)))) else (none))))
def remontoirref03_Parse.j4 : Nat → ByteArray → Int → Int → Bool → Int → Int → Option (Int × Int × Int)
  | 0, _, _, _, _, _, _ => none
  | k + 1, x0, x5, x6, x78, x154000, x154001 => if x78 = true then (some (x154000, x154001, 2)) else (if x6 > 1000000 then (some (x154000, x154001, 3)) else (if 0 ≤ (wrap64 (x5 + 1)) then (if (wrap64 (x5 + 1)) ≤ (x0.size : Int) then ((remontoirref02_Parse.f k (x0.extract ((wrap64 (x5 + 1)) : Int).toNat x0.size)).bind fun bt154 => (if bt154.2 = 0 then (if bt154.1 = 0 then (some (x154000, x154001, 6)) else (some (x6, bt154.1, 0))) else (some (x154000, x154001, bt154.2)))) else (none)) else (none)))
end
def remontoirref03_Parse.f (k : Nat) (a0 : ByteArray) : Option (Int × Int × Int) := if (a0.size : Int) < 1 then (remontoirref03_Parse.j0 k a0 true 0 0) else (if 0 < (a0.size : Int) then (remontoirref03_Parse.j0 k a0 ((bt a0 0) != 82) 0 0) else (none))
theorem remontoirref03_Parse.mono_l : ∀ k, (∀ y0 y1 y2 y3, LeO (remontoirref03_Parse.j0 k y0 y1 y2 y3) (remontoirref03_Parse.j0 (k + 1) y0 y1 y2 y3)) ∧ (∀ y0 y1 y2 y3, LeO (remontoirref03_Parse.j1 k y0 y1 y2 y3) (remontoirref03_Parse.j1 (k + 1) y0 y1 y2 y3)) ∧ (∀ y0 y1 y2 y3 y4, LeO (remontoirref03_Parse.l0 k y0 y1 y2 y3 y4) (remontoirref03_Parse.l0 (k + 1) y0 y1 y2 y3 y4)) ∧ (∀ y0 y1 y2 y3 y4 y5, LeO (remontoirref03_Parse.j3 k y0 y1 y2 y3 y4 y5) (remontoirref03_Parse.j3 (k + 1) y0 y1 y2 y3 y4 y5)) ∧ (∀ y0 y1 y2 y3 y4 y5, LeO (remontoirref03_Parse.j4 k y0 y1 y2 y3 y4 y5) (remontoirref03_Parse.j4 (k + 1) y0 y1 y2 y3 y4 y5))
  | 0 => ⟨fun _ _ _ _ r h => by simp [remontoirref03_Parse.j0] at h, fun _ _ _ _ r h => by simp [remontoirref03_Parse.j1] at h, fun _ _ _ _ _ r h => by simp [remontoirref03_Parse.l0] at h, fun _ _ _ _ _ _ r h => by simp [remontoirref03_Parse.j3] at h, fun _ _ _ _ _ _ r h => by simp [remontoirref03_Parse.j4] at h⟩
  | k + 1 => by
    obtain ⟨ih0, ih1, ih2, ih3, ih4⟩ := remontoirref03_Parse.mono_l k
    refine ⟨?_, ?_, ?_, ?_, ?_⟩
    · intro y0 y1 y2 y3
      unfold remontoirref03_Parse.j0
      repeat' first
      | (with_reducible exact ih0 _ _ _ _)
      | (with_reducible exact ih1 _ _ _ _)
      | (with_reducible exact ih2 _ _ _ _ _)
      | (with_reducible exact ih3 _ _ _ _ _ _)
      | (with_reducible exact ih4 _ _ _ _ _ _)
      | (with_reducible exact remontoirref02_Parse.mono _ _)
      | (with_reducible exact LeO.refl _)
      | (with_reducible exact LeO.none _)
      | (with_reducible refine LeO.ite ?_ ?_)
      | (with_reducible refine LeO.bind ?_ (fun _ => ?_))
      | exact ih0 _ _ _ _
      | exact ih1 _ _ _ _
      | exact ih2 _ _ _ _ _
      | exact ih3 _ _ _ _ _ _
      | exact ih4 _ _ _ _ _ _
      | exact remontoirref02_Parse.mono _ _
      | exact LeO.none _
      | refine LeO.ite ?_ ?_
      | refine LeO.bind ?_ (fun _ => ?_)
    · intro y0 y1 y2 y3
      unfold remontoirref03_Parse.j1
      repeat' first
      | (with_reducible exact ih0 _ _ _ _)
      | (with_reducible exact ih1 _ _ _ _)
      | (with_reducible exact ih2 _ _ _ _ _)
      | (with_reducible exact ih3 _ _ _ _ _ _)
      | (with_reducible exact ih4 _ _ _ _ _ _)
      | (with_reducible exact remontoirref02_Parse.mono _ _)
      | (with_reducible exact LeO.refl _)
      | (with_reducible exact LeO.none _)
      | (with_reducible refine LeO.ite ?_ ?_)
      | (with_reducible refine LeO.bind ?_ (fun _ => ?_))
      | exact ih0 _ _ _ _
      | exact ih1 _ _ _ _
      | exact ih2 _ _ _ _ _
      | exact ih3 _ _ _ _ _ _
      | exact ih4 _ _ _ _ _ _
      | exact remontoirref02_Parse.mono _ _
      | exact LeO.none _
      | refine LeO.ite ?_ ?_
      | refine LeO.bind ?_ (fun _ => ?_)
    · intro y0 y1 y2 y3 y4
      unfold remontoirref03_Parse.l0
      repeat' first
      | (with_reducible exact ih0 _ _ _ _)
      | (with_reducible exact ih1 _ _ _ _)
      | (with_reducible exact ih2 _ _ _ _ _)
      | (with_reducible exact ih3 _ _ _ _ _ _)
      | (with_reducible exact ih4 _ _ _ _ _ _)
      | (with_reducible exact remontoirref02_Parse.mono _ _)
      | (with_reducible exact LeO.refl _)
      | (with_reducible exact LeO.none _)
      | (with_reducible refine LeO.ite ?_ ?_)
      | (with_reducible refine LeO.bind ?_ (fun _ => ?_))
      | exact ih0 _ _ _ _
      | exact ih1 _ _ _ _
      | exact ih2 _ _ _ _ _
      | exact ih3 _ _ _ _ _ _
      | exact ih4 _ _ _ _ _ _
      | exact remontoirref02_Parse.mono _ _
      | exact LeO.none _
      | refine LeO.ite ?_ ?_
      | refine LeO.bind ?_ (fun _ => ?_)
    · intro y0 y1 y2 y3 y4 y5
      unfold remontoirref03_Parse.j3
      repeat' first
      | (with_reducible exact ih0 _ _ _ _)
      | (with_reducible exact ih1 _ _ _ _)
      | (with_reducible exact ih2 _ _ _ _ _)
      | (with_reducible exact ih3 _ _ _ _ _ _)
      | (with_reducible exact ih4 _ _ _ _ _ _)
      | (with_reducible exact remontoirref02_Parse.mono _ _)
      | (with_reducible exact LeO.refl _)
      | (with_reducible exact LeO.none _)
      | (with_reducible refine LeO.ite ?_ ?_)
      | (with_reducible refine LeO.bind ?_ (fun _ => ?_))
      | exact ih0 _ _ _ _
      | exact ih1 _ _ _ _
      | exact ih2 _ _ _ _ _
      | exact ih3 _ _ _ _ _ _
      | exact ih4 _ _ _ _ _ _
      | exact remontoirref02_Parse.mono _ _
      | exact LeO.none _
      | refine LeO.ite ?_ ?_
      | refine LeO.bind ?_ (fun _ => ?_)
    · intro y0 y1 y2 y3 y4 y5
      unfold remontoirref03_Parse.j4
      repeat' first
      | (with_reducible exact ih0 _ _ _ _)
      | (with_reducible exact ih1 _ _ _ _)
      | (with_reducible exact ih2 _ _ _ _ _)
      | (with_reducible exact ih3 _ _ _ _ _ _)
      | (with_reducible exact ih4 _ _ _ _ _ _)
      | (with_reducible exact remontoirref02_Parse.mono _ _)
      | (with_reducible exact LeO.refl _)
      | (with_reducible exact LeO.none _)
      | (with_reducible refine LeO.ite ?_ ?_)
      | (with_reducible refine LeO.bind ?_ (fun _ => ?_))
      | exact ih0 _ _ _ _
      | exact ih1 _ _ _ _
      | exact ih2 _ _ _ _ _
      | exact ih3 _ _ _ _ _ _
      | exact ih4 _ _ _ _ _ _
      | exact remontoirref02_Parse.mono _ _
      | exact LeO.none _
      | refine LeO.ite ?_ ?_
      | refine LeO.bind ?_ (fun _ => ?_)
theorem remontoirref03_Parse.mono : ∀ a0 k, LeO (remontoirref03_Parse.f k a0) (remontoirref03_Parse.f (k + 1) a0) := by
  intro a0 k
  obtain ⟨ih0, ih1, ih2, ih3, ih4⟩ := remontoirref03_Parse.mono_l k
  unfold remontoirref03_Parse.f
  repeat' first
      | (with_reducible exact ih0 _ _ _ _)
      | (with_reducible exact ih1 _ _ _ _)
      | (with_reducible exact ih2 _ _ _ _ _)
      | (with_reducible exact ih3 _ _ _ _ _ _)
      | (with_reducible exact ih4 _ _ _ _ _ _)
      | (with_reducible exact remontoirref02_Parse.mono _ _)
      | (with_reducible exact LeO.refl _)
      | (with_reducible exact LeO.none _)
      | (with_reducible refine LeO.ite ?_ ?_)
      | (with_reducible refine LeO.bind ?_ (fun _ => ?_))
      | exact ih0 _ _ _ _
      | exact ih1 _ _ _ _
      | exact ih2 _ _ _ _ _
      | exact ih3 _ _ _ _ _ _
      | exact ih4 _ _ _ _ _ _
      | exact remontoirref02_Parse.mono _ _
      | exact LeO.none _
      | refine LeO.ite ?_ ?_
      | refine LeO.bind ?_ (fun _ => ?_)
set_option maxHeartbeats 8000000 in
set_option maxRecDepth 100000 in
theorem remontoirref03_Parse.calls (k : Nat) (a0 : ByteArray) (r1 : Int) (r2 : Int) (r3 : Int) (w : World) (h : remontoirref03_Parse.f k a0 = some (r1, r2, r3)) :
    Calls Tryd.prog 10 #[.string a0] w fun e w' => e = .returned (.tuple #[.agg #[.int .i64 r1, .int .u64 r2], .int .i64 r3]) ∧ Below w.heap.size w w' := by
  have hu25 := Tryd.underlying25
  have HB := Aside0.mk (Below.refl w.heap.size w)
  have H : (if (a0.size : Int) < 1 then (remontoirref03_Parse.j0 k a0 true 0 0) else (if 0 < (a0.size : Int) then (remontoirref03_Parse.j0 k a0 ((bt a0 0) != 82) 0 0) else (none))) = some (r1, r2, r3) := h
  clear h
  have HC2 := Aside0.mk H
  clear H
  go_enter Tryd.func10, Tryd.ntmps10
  go_upto_region 2 with (first | ((with_reducible refine gate_dst (N := 2) rfl ?_); (try (refine gate_guard (by rfl) ?_; dsimp only)); refine box_event ?hg (N := 2) ?hd (cs := #[.int .i64 0, .int .u64 0]) (t := 25) ?hr ?_; (case hd => rfl); (case hg => rfl); (case hr => first | (go_simp; done) | (go_simp; rfl)); intro gb152 hg w3 hbox hb; have n0_ := Aside0.mk (below_step (by repeat (first | (with_reducible first | exact HB.out | apply below_alloc | apply pw_below_drewN | apply below_drew1) | exact HB.out)) hb); have n1_ := Aside0.mk (hbox); have n2_ := Aside0.mk ((by rw [hg]; exact (below_size (by repeat (first | (with_reducible first | exact HB.out | apply below_alloc | apply pw_below_drewN | apply below_drew1) | exact HB.out))) : w.heap.size ≤ gb152)); have n3_ := Aside0.mk ((by rw [hg]; exact (below_size (by repeat (first | (with_reducible first | exact HB.out | apply below_alloc | apply pw_below_drewN | apply below_drew1) | exact HB.out))) : w.heap.size ≤ gb152)); clear HB; have HB := n0_; have BK152 := n1_; have GW152 := n2_; have GE152 := n3_; clear n0_ n1_ n2_ n3_; clear hb hbox hg) | ((with_reducible refine gate_dst (N := 4) rfl ?_); (try (refine gate_guard (by rfl) ?_; dsimp only)); refine box_event ?hg (N := 4) ?hd (cs := #[.int .i64 0, .int .u64 0]) (t := 25) ?hr ?_; (case hd => rfl); (case hg => rfl); (case hr => first | (go_simp; done) | (go_simp; rfl)); intro gb153 hg w4 hbox hb; have n0_ := Aside0.mk (blk_below (g := gb152) (o := .cells #[.int .i64 0, .int .u64 0] 25 (0, 0)) (by (with_reducible repeat (first | refine blk_drewN ?_ _ | refine blk_drew ?_ | refine blk_alloc ?_ _)); exact BK152.out) hb); have n1_ := Aside0.mk (below_step (by repeat (first | (with_reducible first | exact HB.out | apply below_alloc | apply pw_below_drewN | apply below_drew1 | refine below_set ?_ GE152.out) | exact HB.out)) hb); have n2_ := Aside0.mk (hbox); have n3_ := Aside0.mk ((by rw [hg]; exact (below_size (by repeat (first | (with_reducible first | exact HB.out | apply below_alloc | apply pw_below_drewN | apply below_drew1 | refine below_set ?_ GE152.out) | exact HB.out))) : w.heap.size ≤ gb153)); have n4_ := Aside0.mk ((by rw [hg]; exact (below_size (by repeat (first | (with_reducible first | exact HB.out | apply below_alloc | apply pw_below_drewN | apply below_drew1 | refine below_set ?_ GE152.out) | exact HB.out))) : w.heap.size ≤ gb153)); have n5_ := Aside0.mk ((by rw [hg]; exact Nat.ne_of_lt (blk_lt (g := gb152) (o := .cells #[.int .i64 0, .int .u64 0] 25 (0, 0)) (by (with_reducible repeat (first | refine blk_drewN ?_ _ | refine blk_drew ?_ | refine blk_alloc ?_ _)); exact BK152.out)) : gb152 ≠ gb153)); have n6_ := Aside0.mk ((by rw [hg]; exact Nat.ne_of_gt (blk_lt (g := gb152) (o := .cells #[.int .i64 0, .int .u64 0] 25 (0, 0)) (by (with_reducible repeat (first | refine blk_drewN ?_ _ | refine blk_drew ?_ | refine blk_alloc ?_ _)); exact BK152.out)) : gb153 ≠ gb152)); clear BK152; clear HB; have BK152 := n0_; have HB := n1_; have BK153 := n2_; have GW153 := n3_; have GE153 := n4_; have NB152_153 := n5_; have NB153_152 := n6_; clear n0_ n1_ n2_ n3_ n4_ n5_ n6_; clear hb hbox hg; have hnb5 := NB153_152.out; have hnc5 := NB152_153.out; have hcz6_0 : w4.cell? ⟨gb153, 0, none⟩ = some (.int .i64 0) := (blk_cell BK153.out 0).trans rfl; have hcz6_1 : w4.cell? ⟨gb153, 1, none⟩ = some (.int .u64 0) := (blk_cell BK153.out 1).trans rfl; have hfz6_0 := blk_frozen BK153.out 0; have hfz6_1 := blk_frozen BK153.out 1))
  (try simp only [Act.put, List.setIfInBounds_toArray, List.set_cons_zero, List.set_cons_succ])
  go_cut [17] (fun v17 wc => ∃ (kq : Nat) (x17_1 : Bool), v17 = .bool x17_1 ∧ Aside0 (remontoirref03_Parse.j0 kq a0 x17_1 0 0 = some (r1, r2, r3)) ∧ Aside0 (kq ≤ k) ∧ Aside0 (wc.heap[gb152]? = some (.cells #[.int .i64 0, .int .u64 0] 25 (0, 0))) ∧ Aside0 (wc.heap[gb153]? = some (.cells #[.int .i64 0, .int .u64 0] 25 (0, 0))) ∧ Aside0 (Below w.heap.size w wc))
  case first =>
    have H := HC2.out
    clear HC2
    by_cases c7 : (a0.size : Int) < 1
    · rw [if_pos c7] at H
      have c7b0 : decide ((a0.size : Int) < 1) = true := decide_eq_true c7
      have c7b1 : decide (a0.size < 1) = true := decide_eq_true (by omega)
      clear c7
      (first | rw [c7b0] | (simp only [i64_w, i32_w]; rw [c7b0]) | skip)
      have H' := Aside0.mk H
      clear H
      go_wp2
      go_meet
      case rel => exact ⟨_, (true), (by first | rfl | (simp; done) | (simp [*]; done)), H', ⟨by first | omega | exact Nat.le_refl _⟩, ⟨by (with_reducible repeat (first | refine blk_drewN ?_ _ | refine blk_drew ?_ | refine blk_alloc ?_ _)); refine blk_far ?_ NB152_153.out _; (with_reducible repeat (first | refine blk_drewN ?_ _ | refine blk_drew ?_ | refine blk_alloc ?_ _)); refine blk_far ?_ NB152_153.out _; (with_reducible repeat (first | refine blk_drewN ?_ _ | refine blk_drew ?_ | refine blk_alloc ?_ _)); exact BK152.out⟩, ⟨by (with_reducible repeat (first | refine blk_drewN ?_ _ | refine blk_drew ?_ | refine blk_alloc ?_ _)); refine blk_put (cs := #[.int .i64 0, .int .u64 0]) ?_ 1 _ rfl; (with_reducible repeat (first | refine blk_drewN ?_ _ | refine blk_drew ?_ | refine blk_alloc ?_ _)); refine blk_put (cs := #[.int .i64 0, .int .u64 0]) ?_ 0 _ rfl; (with_reducible repeat (first | refine blk_drewN ?_ _ | refine blk_drew ?_ | refine blk_alloc ?_ _)); exact BK153.out⟩, ⟨by repeat (first | (with_reducible first | exact HB.out | apply below_alloc | apply pw_below_drewN | apply below_drew1 | refine below_set ?_ GE152.out | refine below_set ?_ GE153.out) | exact HB.out)⟩⟩
    · rw [if_neg c7] at H
      have c7b0 : decide ((a0.size : Int) < 1) = false := decide_eq_false c7
      have c7b1 : decide (a0.size < 1) = false := decide_eq_false (by omega)
      clear c7
      (first | rw [c7b0] | (simp only [i64_w, i32_w]; rw [c7b0]) | skip)
      by_cases c8 : 0 < (a0.size : Int)
      · rw [if_pos c8] at H
        have c8b0 : decide (0 < (a0.size : Int)) = true := decide_eq_true c8
        have c8b1 : decide (0 < a0.size) = true := decide_eq_true (by omega)
        clear c8
        have H' := Aside0.mk H
        clear H
        have p9 : 0 ≤ (0 : Int) := (by omega)
        have q9 : 0 < a0.size := (by have : (0 : Int) < (a0.size : Int) := of_decide_eq_true (by first | (with_reducible assumption) | assumption); omega)
        have hx9 : ∀ h : 0 < a0.size, ((a0[0]'h).toNat : Int) = bt a0 0 := bt_at a0 0
        clear p9
        have qi9 : (0 < (a0.size : Int)) = True := eq_true (of_decide_eq_true (by first | (with_reducible assumption) | assumption))
        replace q9 := eq_true q9
        go_wp2
        go_meet
        case rel => exact ⟨_, (((bt a0 0) != 82)), (by first | rfl | (simp; done) | (simp [*]; done)), H', ⟨by first | omega | exact Nat.le_refl _⟩, ⟨by (with_reducible repeat (first | refine blk_drewN ?_ _ | refine blk_drew ?_ | refine blk_alloc ?_ _)); refine blk_far ?_ NB152_153.out _; (with_reducible repeat (first | refine blk_drewN ?_ _ | refine blk_drew ?_ | refine blk_alloc ?_ _)); refine blk_far ?_ NB152_153.out _; (with_reducible repeat (first | refine blk_drewN ?_ _ | refine blk_drew ?_ | refine blk_alloc ?_ _)); exact BK152.out⟩, ⟨by (with_reducible repeat (first | refine blk_drewN ?_ _ | refine blk_drew ?_ | refine blk_alloc ?_ _)); refine blk_put (cs := #[.int .i64 0, .int .u64 0]) ?_ 1 _ rfl; (with_reducible repeat (first | refine blk_drewN ?_ _ | refine blk_drew ?_ | refine blk_alloc ?_ _)); refine blk_put (cs := #[.int .i64 0, .int .u64 0]) ?_ 0 _ rfl; (with_reducible repeat (first | refine blk_drewN ?_ _ | refine blk_drew ?_ | refine blk_alloc ?_ _)); exact BK153.out⟩, ⟨by repeat (first | (with_reducible first | exact HB.out | apply below_alloc | apply pw_below_drewN | apply below_drew1 | refine below_set ?_ GE152.out | refine below_set ?_ GE153.out) | exact HB.out)⟩⟩
      · rw [if_neg c8] at H
        exact absurd H (by simp)
  case rest =>
    clear HC2
    try clear c1
    try clear p2
    try clear c5
    try clear c7
    try clear c7b0
    try clear c7b1
    try clear c8
    try clear c8b0
    try clear c8b1
    try clear p9
    try clear q9
    try clear hx9
    try clear qi9
    try clear hcz6_0
    try clear hcz6_1
    try clear hfz6_0
    try clear hfz6_1
    try clear p9
    try clear q9
    obtain ⟨kq, x17_1, rfl, HA, HJ1, BK152, BK153, HB⟩ := hcut
    cases kq with
    | zero => exact absurd HA.out (by simp [remontoirref03_Parse.j0])
    | succ kj1 =>
      have H := HA.out
      clear HA
      simp only [remontoirref03_Parse.j0] at H
      by_cases c10 : x17_1 = true
      · subst c10
        have H1 : (some (0, 0, 2)) = some (r1, r2, r3) := by rw [if_pos rfl] at H; exact H
        clear H
        have H := H1
        clear H1
        simp only [Option.some.injEq, Prod.mk.injEq] at H
        obtain ⟨rfl, rfl, rfl⟩ := H
        have hnb11 := NB153_152.out
        have hnc11 := NB152_153.out
        have hcz12_0 : wc.cell? ⟨gb153, 0, none⟩ = some (.int .i64 0) := (blk_cell BK153.out 0).trans rfl
        have hcz12_1 : wc.cell? ⟨gb153, 1, none⟩ = some (.int .u64 0) := (blk_cell BK153.out 1).trans rfl
        have hfz12_0 := blk_frozen BK153.out 0
        have hfz12_1 := blk_frozen BK153.out 1
        have hcz13_0 : wc.cell? ⟨gb152, 0, none⟩ = some (.int .i64 0) := (blk_cell BK152.out 0).trans rfl
        have hcz13_1 : wc.cell? ⟨gb152, 1, none⟩ = some (.int .u64 0) := (blk_cell BK152.out 1).trans rfl
        have hfz13_0 := blk_frozen BK152.out 0
        have hfz13_1 := blk_frozen BK152.out 1
        go_wp2
        refine bodyPost_ret (results_ct rfl _ _ gb152 25 #[.int .i64 0, .int .u64 0] (0, 0) _ rfl (by (with_reducible repeat (first | refine blk_drewN ?_ _ | refine blk_drew ?_ | refine blk_alloc ?_ _)); refine blk_put (cs := #[.int .i64 0, .int .u64 0]) ?_ 1 _ rfl; (with_reducible repeat (first | refine blk_drewN ?_ _ | refine blk_drew ?_ | refine blk_alloc ?_ _)); refine blk_put (cs := #[.int .i64 0, .int .u64 0]) ?_ 0 _ rfl; (with_reducible repeat (first | refine blk_drewN ?_ _ | refine blk_drew ?_ | refine blk_alloc ?_ _)); exact BK152.out) Tryd.underlying25 rfl (by kernel_rfl)) rfl ?_
        exact ⟨by first | rfl | (simp [errW_none, errW_some] <;> rfl) | (simp [*, errW_none, errW_some] <;> rfl), by repeat (first | (with_reducible first | exact HB.out | apply below_alloc | apply pw_below_drewN | apply below_drew1 | refine below_set ?_ GE152.out | refine below_set ?_ GE153.out) | exact HB.out)⟩
      · replace c10 := Bool.eq_false_iff.mpr c10
        subst c10
        have H1 : (if (a0.size : Int) > 1 then (if 1 < (a0.size : Int) then (remontoirref03_Parse.j1 kj1 a0 ((bt a0 1) == 47) 0 0) else (none)) else (remontoirref03_Parse.j1 kj1 a0 false 0 0)) = some (r1, r2, r3) := by rw [if_neg (show ¬ (false = true) by decide)] at H; exact H
        clear H
        have H := H1
        clear H1
        have HC14 := Aside0.mk H
        clear H
        go_upto_region 4 with (fail)
        go_cut [26] (fun v26 wc => ∃ (kq : Nat) (x26_13 : Bool), v26 = .bool x26_13 ∧ Aside0 (remontoirref03_Parse.j1 kq a0 x26_13 0 0 = some (r1, r2, r3)) ∧ Aside0 (kq ≤ kj1) ∧ Aside0 (wc.heap[gb152]? = some (.cells #[.int .i64 0, .int .u64 0] 25 (0, 0))) ∧ Aside0 (wc.heap[gb153]? = some (.cells #[.int .i64 0, .int .u64 0] 25 (0, 0))) ∧ Aside0 (Below w.heap.size w wc))
        case first =>
          have H := HC14.out
          clear HC14
          by_cases c15 : (a0.size : Int) > 1
          · rw [if_pos c15] at H
            have c15b0 : decide (1 < (a0.size : Int)) = true := decide_eq_true c15
            have c15b1 : decide (1 < a0.size) = true := decide_eq_true (by omega)
            clear c15
            (first | rw [c15b0] | (simp only [i64_w, i32_w]; rw [c15b0]) | skip)
            by_cases c16 : 1 < (a0.size : Int)
            · rw [if_pos c16] at H
              have c16b0 : decide (1 < (a0.size : Int)) = true := decide_eq_true c16
              have c16b1 : decide (1 < a0.size) = true := decide_eq_true (by omega)
              clear c16
              have H' := Aside0.mk H
              clear H
              have p17 : 0 ≤ (1 : Int) := (by omega)
              have q17 : 1 < a0.size := (by have : (1 : Int) < (a0.size : Int) := of_decide_eq_true (by first | (with_reducible assumption) | assumption); omega)
              have hx17 : ∀ h : 1 < a0.size, ((a0[1]'h).toNat : Int) = bt a0 1 := bt_at a0 1
              clear p17
              have qi17 : (1 < (a0.size : Int)) = True := eq_true (of_decide_eq_true (by first | (with_reducible assumption) | assumption))
              replace q17 := eq_true q17
              go_wp2
              go_meet
              case rel => exact ⟨_, (((bt a0 1) == 47)), (by first | rfl | (simp; done) | (simp [*]; done)), H', ⟨by have := HJ1.out; first | omega | exact Nat.le_refl _⟩, ⟨by (with_reducible repeat (first | refine blk_drewN ?_ _ | refine blk_drew ?_ | refine blk_alloc ?_ _)); exact BK152.out⟩, ⟨by (with_reducible repeat (first | refine blk_drewN ?_ _ | refine blk_drew ?_ | refine blk_alloc ?_ _)); exact BK153.out⟩, ⟨by repeat (first | (with_reducible first | exact HB.out | apply below_alloc | apply pw_below_drewN | apply below_drew1 | refine below_set ?_ GE152.out | refine below_set ?_ GE153.out) | exact HB.out)⟩⟩
            · rw [if_neg c16] at H
              exact absurd H (by simp)
          · rw [if_neg c15] at H
            have c15b0 : decide (1 < (a0.size : Int)) = false := decide_eq_false c15
            have c15b1 : decide (1 < a0.size) = false := decide_eq_false (by omega)
            clear c15
            (first | rw [c15b0] | (simp only [i64_w, i32_w]; rw [c15b0]) | skip)
            have H' := Aside0.mk H
            clear H
            go_wp2
            go_meet
            case rel => exact ⟨_, (false), (by first | rfl | (simp; done) | (simp [*]; done)), H', ⟨by have := HJ1.out; first | omega | exact Nat.le_refl _⟩, ⟨by (with_reducible repeat (first | refine blk_drewN ?_ _ | refine blk_drew ?_ | refine blk_alloc ?_ _)); exact BK152.out⟩, ⟨by (with_reducible repeat (first | refine blk_drewN ?_ _ | refine blk_drew ?_ | refine blk_alloc ?_ _)); exact BK153.out⟩, ⟨by repeat (first | (with_reducible first | exact HB.out | apply below_alloc | apply pw_below_drewN | apply below_drew1 | refine below_set ?_ GE152.out | refine below_set ?_ GE153.out) | exact HB.out)⟩⟩
        case rest =>
          clear HC14
          try clear c1
          try clear p1
          try clear q1
          try clear hx1
          try clear qi1
          try clear p2
          try clear c5
          try clear c7
          try clear c7b0
          try clear c7b1
          try clear c8
          try clear c8b0
          try clear c8b1
          try clear p9
          try clear q9
          try clear hx9
          try clear qi9
          try clear c10
          try clear c11
          try clear c15
          try clear c15b0
          try clear c15b1
          try clear c16
          try clear c16b0
          try clear c16b1
          try clear p17
          try clear q17
          try clear hx17
          try clear qi17
          try clear hcz12_0
          try clear hcz12_1
          try clear hcz13_0
          try clear hcz13_1
          try clear hcz6_0
          try clear hcz6_1
          try clear hfz12_0
          try clear hfz12_1
          try clear hfz13_0
          try clear hfz13_1
          try clear hfz6_0
          try clear hfz6_1
          try clear p17
          try clear p2
          try clear p9
          try clear q17
          try clear q9
          obtain ⟨kq, x26_13, rfl, HA, HJ13, BK152, BK153, HB⟩ := hcut
          cases kq with
          | zero => exact absurd HA.out (by simp [remontoirref03_Parse.j1])
          | succ kj13 =>
            have H := HA.out
            clear HA
            simp only [remontoirref03_Parse.j1] at H
            by_cases c18 : x26_13 = true
            · subst c18
              have H1 : (some (0, 0, 5)) = some (r1, r2, r3) := by rw [if_pos rfl] at H; exact H
              clear H
              have H := H1
              clear H1
              simp only [Option.some.injEq, Prod.mk.injEq] at H
              obtain ⟨rfl, rfl, rfl⟩ := H
              have hnb19 := NB153_152.out
              have hnc19 := NB152_153.out
              have hcz20_0 : wc.cell? ⟨gb153, 0, none⟩ = some (.int .i64 0) := (blk_cell BK153.out 0).trans rfl
              have hcz20_1 : wc.cell? ⟨gb153, 1, none⟩ = some (.int .u64 0) := (blk_cell BK153.out 1).trans rfl
              have hfz20_0 := blk_frozen BK153.out 0
              have hfz20_1 := blk_frozen BK153.out 1
              have hcz21_0 : wc.cell? ⟨gb152, 0, none⟩ = some (.int .i64 0) := (blk_cell BK152.out 0).trans rfl
              have hcz21_1 : wc.cell? ⟨gb152, 1, none⟩ = some (.int .u64 0) := (blk_cell BK152.out 1).trans rfl
              have hfz21_0 := blk_frozen BK152.out 0
              have hfz21_1 := blk_frozen BK152.out 1
              go_wp2
              refine bodyPost_ret (results_ct rfl _ _ gb152 25 #[.int .i64 0, .int .u64 0] (0, 0) _ rfl (by (with_reducible repeat (first | refine blk_drewN ?_ _ | refine blk_drew ?_ | refine blk_alloc ?_ _)); refine blk_put (cs := #[.int .i64 0, .int .u64 0]) ?_ 1 _ rfl; (with_reducible repeat (first | refine blk_drewN ?_ _ | refine blk_drew ?_ | refine blk_alloc ?_ _)); refine blk_put (cs := #[.int .i64 0, .int .u64 0]) ?_ 0 _ rfl; (with_reducible repeat (first | refine blk_drewN ?_ _ | refine blk_drew ?_ | refine blk_alloc ?_ _)); exact BK152.out) Tryd.underlying25 rfl (by kernel_rfl)) rfl ?_
              exact ⟨by first | rfl | (simp [errW_none, errW_some] <;> rfl) | (simp [*, errW_none, errW_some] <;> rfl), by repeat (first | (with_reducible first | exact HB.out | apply below_alloc | apply pw_below_drewN | apply below_drew1 | refine below_set ?_ GE152.out | refine below_set ?_ GE153.out) | exact HB.out)⟩
            · replace c18 := Bool.eq_false_iff.mpr c18
              subst c18
              have H1 : (remontoirref03_Parse.l0 kj13 a0 1 0 0 0) = some (r1, r2, r3) := by rw [if_neg (show ¬ (false = true) by decide)] at H; exact H
              clear H
              have H := H1
              clear H1
              have H' := Aside0.mk H
              clear H
              go_wp2
              go_loopg [5, 6] kj13 (fun kq v5 v6 w' => ∃ (x5_3 : Int) (x6_3 : Int), v5 = .int .i64 x5_3 ∧ v6 = .int .i64 x6_3 ∧ Aside0 (remontoirref03_Parse.l0 kq a0 x5_3 x6_3 0 0 = some (r1, r2, r3)) ∧ Aside0 (kq ≤ kj13) ∧ Aside0 (w'.heap[gb152]? = some (.cells #[.int .i64 0, .int .u64 0] 25 (0, 0))) ∧ Aside0 (w'.heap[gb153]? = some (.cells #[.int .i64 0, .int .u64 0] 25 (0, 0))) ∧ Aside0 (Below w.heap.size w w'))
              case atStart => exact ⟨(1), (0), (by first | rfl | (simp; done) | (simp [*]; done)), (by first | rfl | (simp; done) | (simp [*]; done)), H', ⟨Nat.le_refl _⟩, ⟨by (with_reducible repeat (first | refine blk_drewN ?_ _ | refine blk_drew ?_ | refine blk_alloc ?_ _)); exact BK152.out⟩, ⟨by (with_reducible repeat (first | refine blk_drewN ?_ _ | refine blk_drew ?_ | refine blk_alloc ?_ _)); exact BK153.out⟩, ⟨by repeat (first | (with_reducible first | exact HB.out | apply below_alloc | apply pw_below_drewN | apply below_drew1 | refine below_set ?_ GE152.out | refine below_set ?_ GE153.out) | exact HB.out)⟩⟩
              case round =>
                clear H'
                try clear c1
                try clear p1
                try clear q1
                try clear hx1
                try clear qi1
                try clear p2
                try clear c5
                try clear c7
                try clear c7b0
                try clear c7b1
                try clear c8
                try clear c8b0
                try clear c8b1
                try clear p9
                try clear q9
                try clear hx9
                try clear qi9
                try clear c10
                try clear c11
                try clear c15
                try clear c15b0
                try clear c15b1
                try clear c16
                try clear c16b0
                try clear c16b1
                try clear p17
                try clear q17
                try clear hx17
                try clear qi17
                try clear c18
                try clear c19
                try clear hcz12_0
                try clear hcz12_1
                try clear hcz13_0
                try clear hcz13_1
                try clear hcz20_0
                try clear hcz20_1
                try clear hcz21_0
                try clear hcz21_1
                try clear hcz6_0
                try clear hcz6_1
                try clear hfz12_0
                try clear hfz12_1
                try clear hfz13_0
                try clear hfz13_1
                try clear hfz20_0
                try clear hfz20_1
                try clear hfz21_0
                try clear hfz21_1
                try clear hfz6_0
                try clear hfz6_1
                try clear p1
                try clear p17
                try clear p2
                try clear p9
                try clear q1
                try clear q17
                try clear q9
                obtain ⟨x5_3, x6_3, rfl, rfl, HA, HK3, BK152, BK153, HB⟩ := hrel
                cases gk with
                | zero => exact absurd HA.out (by simp [remontoirref03_Parse.l0])
                | succ k3 =>
                  have H := HA.out
                  clear HA
                  simp only [remontoirref03_Parse.l0] at H
                  have HC22 := Aside0.mk H
                  clear H
                  go_upto_region 7 with (fail)
                  go_cut [43] (fun v43 wc => ∃ (kq : Nat) (x43_21 : Bool), v43 = .bool x43_21 ∧ Aside0 (remontoirref03_Parse.j3 kq a0 x5_3 x6_3 x43_21 0 0 = some (r1, r2, r3)) ∧ Aside0 (kq ≤ k3) ∧ Aside0 (wc.heap[gb152]? = some (.cells #[.int .i64 0, .int .u64 0] 25 (0, 0))) ∧ Aside0 (wc.heap[gb153]? = some (.cells #[.int .i64 0, .int .u64 0] 25 (0, 0))) ∧ Aside0 (Below w.heap.size w wc))
                  case first =>
                    have H := HC22.out
                    clear HC22
                    by_cases c23 : x5_3 < (a0.size : Int)
                    · rw [if_pos c23] at H
                      have c23b0 : decide (x5_3 < (a0.size : Int)) = true := decide_eq_true c23
                      clear c23
                      (first | rw [c23b0] | (simp only [i64_w, i32_w]; rw [c23b0]) | skip)
                      by_cases c24 : 0 ≤ x5_3
                      · rw [if_pos c24] at H
                        have c24b0 : decide (0 ≤ x5_3) = true := decide_eq_true c24
                        clear c24
                        by_cases c26 : (bt a0 x5_3) ≥ 48
                        · rw [if_pos c26] at H
                          have c26b0 : decide (48 ≤ (bt a0 x5_3)) = true := decide_eq_true c26
                          clear c26
                          have H' := Aside0.mk H
                          clear H
                          have p25 : 0 ≤ (x5_3 : Int) := of_decide_eq_true (by first | (with_reducible assumption) | assumption)
                          have q25 : x5_3 < (a0.size : Int) := of_decide_eq_true (by first | (with_reducible assumption) | assumption)
                          have hx25 := bt_at a0 x5_3
                          replace p25 := eq_true p25
                          replace q25 := eq_true q25
                          have p27 : 0 ≤ (x5_3 : Int) := of_decide_eq_true (by first | (with_reducible assumption) | assumption)
                          have q27 : x5_3 < (a0.size : Int) := of_decide_eq_true (by first | (with_reducible assumption) | assumption)
                          have hx27 := bt_at a0 x5_3
                          replace p27 := eq_true p27
                          replace q27 := eq_true q27
                          go_wp2
                          go_meet
                          case rel => exact ⟨_, (decide ((bt a0 x5_3) ≤ 57)), (by first | rfl | (simp; done) | (simp [*]; done)), H', ⟨by have := HJ1.out; have := HJ13.out; have := HK3.out; first | omega | exact Nat.le_refl _⟩, ⟨by (with_reducible repeat (first | refine blk_drewN ?_ _ | refine blk_drew ?_ | refine blk_alloc ?_ _)); exact BK152.out⟩, ⟨by (with_reducible repeat (first | refine blk_drewN ?_ _ | refine blk_drew ?_ | refine blk_alloc ?_ _)); exact BK153.out⟩, ⟨by repeat (first | (with_reducible first | exact HB.out | apply below_alloc | apply pw_below_drewN | apply below_drew1 | refine below_set ?_ GE152.out | refine below_set ?_ GE153.out) | exact HB.out)⟩⟩
                        · rw [if_neg c26] at H
                          have c26b0 : decide (48 ≤ (bt a0 x5_3)) = false := decide_eq_false c26
                          clear c26
                          have H' := Aside0.mk H
                          clear H
                          have p25 : 0 ≤ (x5_3 : Int) := of_decide_eq_true (by first | (with_reducible assumption) | assumption)
                          have q25 : x5_3 < (a0.size : Int) := of_decide_eq_true (by first | (with_reducible assumption) | assumption)
                          have hx25 := bt_at a0 x5_3
                          replace p25 := eq_true p25
                          replace q25 := eq_true q25
                          go_wp2
                          go_meet
                          case rel => exact ⟨_, (false), (by first | rfl | (simp; done) | (simp [*]; done)), H', ⟨by have := HJ1.out; have := HJ13.out; have := HK3.out; first | omega | exact Nat.le_refl _⟩, ⟨by (with_reducible repeat (first | refine blk_drewN ?_ _ | refine blk_drew ?_ | refine blk_alloc ?_ _)); exact BK152.out⟩, ⟨by (with_reducible repeat (first | refine blk_drewN ?_ _ | refine blk_drew ?_ | refine blk_alloc ?_ _)); exact BK153.out⟩, ⟨by repeat (first | (with_reducible first | exact HB.out | apply below_alloc | apply pw_below_drewN | apply below_drew1 | refine below_set ?_ GE152.out | refine below_set ?_ GE153.out) | exact HB.out)⟩⟩
                      · rw [if_neg c24] at H
                        exact absurd H (by simp)
                    · rw [if_neg c23] at H
                      have c23b0 : decide (x5_3 < (a0.size : Int)) = false := decide_eq_false c23
                      clear c23
                      (first | rw [c23b0] | (simp only [i64_w, i32_w]; rw [c23b0]) | skip)
                      have H' := Aside0.mk H
                      clear H
                      go_wp2
                      go_meet
                      case rel => exact ⟨_, (false), (by first | rfl | (simp; done) | (simp [*]; done)), H', ⟨by have := HJ1.out; have := HJ13.out; have := HK3.out; first | omega | exact Nat.le_refl _⟩, ⟨by (with_reducible repeat (first | refine blk_drewN ?_ _ | refine blk_drew ?_ | refine blk_alloc ?_ _)); exact BK152.out⟩, ⟨by (with_reducible repeat (first | refine blk_drewN ?_ _ | refine blk_drew ?_ | refine blk_alloc ?_ _)); exact BK153.out⟩, ⟨by repeat (first | (with_reducible first | exact HB.out | apply below_alloc | apply pw_below_drewN | apply below_drew1 | refine below_set ?_ GE152.out | refine below_set ?_ GE153.out) | exact HB.out)⟩⟩
                  case rest =>
                    clear HC22
                    try clear c1
                    try clear p1
                    try clear q1
                    try clear hx1
                    try clear qi1
                    try clear c2
                    try clear p2
                    try clear q2
                    try clear hx2
                    try clear c5
                    try clear c7
                    try clear c7b0
                    try clear c7b1
                    try clear c8
                    try clear c8b0
                    try clear c8b1
                    try clear p9
                    try clear q9
                    try clear hx9
                    try clear qi9
                    try clear c10
                    try clear c11
                    try clear c15
                    try clear c15b0
                    try clear c15b1
                    try clear c16
                    try clear c16b0
                    try clear c16b1
                    try clear p17
                    try clear q17
                    try clear hx17
                    try clear qi17
                    try clear c18
                    try clear c19
                    try clear c23
                    try clear c23b0
                    try clear c24
                    try clear c24b0
                    try clear p25
                    try clear q25
                    try clear hx25
                    try clear c26
                    try clear c26b0
                    try clear p27
                    try clear q27
                    try clear hx27
                    try clear hcz12_0
                    try clear hcz12_1
                    try clear hcz13_0
                    try clear hcz13_1
                    try clear hcz20_0
                    try clear hcz20_1
                    try clear hcz21_0
                    try clear hcz21_1
                    try clear hcz6_0
                    try clear hcz6_1
                    try clear hfz12_0
                    try clear hfz12_1
                    try clear hfz13_0
                    try clear hfz13_1
                    try clear hfz20_0
                    try clear hfz20_1
                    try clear hfz21_0
                    try clear hfz21_1
                    try clear hfz6_0
                    try clear hfz6_1
                    try clear p1
                    try clear p17
                    try clear p2
                    try clear p25
                    try clear p27
                    try clear p9
                    try clear q1
                    try clear q17
                    try clear q25
                    try clear q27
                    try clear q9
                    obtain ⟨kq, x43_21, rfl, HA, HJ21, BK152, BK153, HB⟩ := hcut
                    cases kq with
                    | zero => exact absurd HA.out (by simp [remontoirref03_Parse.j3])
                    | succ kj21 =>
                      have H := HA.out
                      clear HA
                      simp only [remontoirref03_Parse.j3] at H
                      by_cases c28 : x43_21 = true
                      · subst c28
                        have H1 : (if x5_3 < 9 then (if 0 ≤ x5_3 then (if x5_3 < (a0.size : Int) then (remontoirref03_Parse.l0 kj21 a0 (wrap64 (x5_3 + 1)) (wrap64 ((wrap64 (10 * x6_3)) + (((bt a0 x5_3) - 48) % 256))) 0 0) else (none)) else (none)) else (remontoirref03_Parse.l0 kj21 a0 (wrap64 (x5_3 + 1)) x6_3 0 0)) = some (r1, r2, r3) := by rw [if_pos rfl] at H; exact H
                        clear H
                        have H := H1
                        clear H1
                        by_cases c29 : x5_3 < 9
                        · rw [if_pos c29] at H
                          have c29b0 : decide (x5_3 < 9) = true := decide_eq_true c29
                          clear c29
                          by_cases c30 : 0 ≤ x5_3
                          · rw [if_pos c30] at H
                            have c30b0 : decide (0 ≤ x5_3) = true := decide_eq_true c30
                            clear c30
                            by_cases c31 : x5_3 < (a0.size : Int)
                            · rw [if_pos c31] at H
                              have c31b0 : decide (x5_3 < (a0.size : Int)) = true := decide_eq_true c31
                              clear c31
                              have H' := Aside0.mk H
                              clear H
                              have p32 : 0 ≤ (x5_3 : Int) := of_decide_eq_true (by first | (with_reducible assumption) | assumption)
                              have q32 : x5_3 < (a0.size : Int) := of_decide_eq_true (by first | (with_reducible assumption) | assumption)
                              have hx32 := bt_at a0 x5_3
                              replace p32 := eq_true p32
                              replace q32 := eq_true q32
                              go_wp2
                              go_roundg kj21
                              case measure => have := HJ1.out; have := HJ13.out; have := HK3.out; have := HJ21.out; omega
                              case rel => exact ⟨(wrap64 (x5_3 + 1)), (wrap64 ((wrap64 (10 * x6_3)) + (((bt a0 x5_3) - 48) % 256))), (by first | rfl | (simp; done) | (simp [*]; done)), (by first | rfl | (simp; done) | (simp [*]; done)), H', ⟨by have := HJ1.out; have := HJ13.out; have := HK3.out; have := HJ21.out; omega⟩, ⟨by (with_reducible repeat (first | refine blk_drewN ?_ _ | refine blk_drew ?_ | refine blk_alloc ?_ _)); exact BK152.out⟩, ⟨by (with_reducible repeat (first | refine blk_drewN ?_ _ | refine blk_drew ?_ | refine blk_alloc ?_ _)); exact BK153.out⟩, ⟨by repeat (first | (with_reducible first | exact HB.out | apply below_alloc | apply pw_below_drewN | apply below_drew1 | refine below_set ?_ GE152.out | refine below_set ?_ GE153.out) | exact HB.out)⟩⟩
                            · rw [if_neg c31] at H
                              exact absurd H (by simp)
                          · rw [if_neg c30] at H
                            exact absurd H (by simp)
                        · rw [if_neg c29] at H
                          have c29b0 : decide (x5_3 < 9) = false := decide_eq_false c29
                          clear c29
                          have H' := Aside0.mk H
                          clear H
                          go_wp2
                          go_roundg kj21
                          case measure => have := HJ1.out; have := HJ13.out; have := HK3.out; have := HJ21.out; omega
                          case rel => exact ⟨(wrap64 (x5_3 + 1)), (x6_3), (by first | rfl | (simp; done) | (simp [*]; done)), (by first | rfl | (simp; done) | (simp [*]; done)), H', ⟨by have := HJ1.out; have := HJ13.out; have := HK3.out; have := HJ21.out; omega⟩, ⟨by (with_reducible repeat (first | refine blk_drewN ?_ _ | refine blk_drew ?_ | refine blk_alloc ?_ _)); exact BK152.out⟩, ⟨by (with_reducible repeat (first | refine blk_drewN ?_ _ | refine blk_drew ?_ | refine blk_alloc ?_ _)); exact BK153.out⟩, ⟨by repeat (first | (with_reducible first | exact HB.out | apply below_alloc | apply pw_below_drewN | apply below_drew1 | refine below_set ?_ GE152.out | refine below_set ?_ GE153.out) | exact HB.out)⟩⟩
                      · replace c28 := Bool.eq_false_iff.mpr c28
                        subst c28
                        have H1 : (if x5_3 = 1 then (remontoirref03_Parse.j4 kj21 a0 x5_3 x6_3 true 0 0) else (if x5_3 > 8 then (remontoirref03_Parse.j4 kj21 a0 x5_3 x6_3 true 0 0) else (if 1 < (a0.size : Int) then (if (bt a0 1) = 48 then (remontoirref03_Parse.j4 kj21 a0 x5_3 x6_3 true 0 0) else (if x5_3 = (a0.size : Int) then (remontoirref03_Parse.j4 kj21 a0 x5_3 x6_3 true 0 0) else (if 0 ≤ x5_3 then (if x5_3 < (a0.size : Int) then (remontoirref03_Parse.j4 kj21 a0 x5_3 x6_3 ((bt a0 x5_3) != 47) 0 0) else (none)) else (none)))) else (none)))) = some (r1, r2, r3) := by rw [if_neg (show ¬ (false = true) by decide)] at H; exact H
                        clear H
                        have H := H1
                        clear H1
                        have HC33 := Aside0.mk H
                        clear H
                        go_upto_region 11 with (fail)
                        go_cut [78] (fun v78 wc => ∃ (kq : Nat) (x78_32 : Bool), v78 = .bool x78_32 ∧ Aside0 (remontoirref03_Parse.j4 kq a0 x5_3 x6_3 x78_32 0 0 = some (r1, r2, r3)) ∧ Aside0 (kq ≤ kj21) ∧ Aside0 (wc.heap[gb152]? = some (.cells #[.int .i64 0, .int .u64 0] 25 (0, 0))) ∧ Aside0 (wc.heap[gb153]? = some (.cells #[.int .i64 0, .int .u64 0] 25 (0, 0))) ∧ Aside0 (Below w.heap.size w wc))
                        case first =>
                          have H := HC33.out
                          clear HC33
                          by_cases c34 : x5_3 = 1
                          · rw [if_pos c34] at H
                            have c34b0 : (x5_3 == 1) = true := beq_iff_eq.mpr c34
                            have c34b1 : (x5_3 != 1) = false := bne_eq_false_iff_eq.mpr c34
                            clear c34
                            (first | rw [c34b0] | (simp only [i64_w, i32_w]; rw [c34b0]) | skip)
                            have H' := Aside0.mk H
                            clear H
                            go_wp2
                            go_meet
                            case rel => exact ⟨_, (true), (by first | rfl | (simp; done) | (simp [*]; done)), H', ⟨by have := HJ1.out; have := HJ13.out; have := HK3.out; have := HJ21.out; first | omega | exact Nat.le_refl _⟩, ⟨by (with_reducible repeat (first | refine blk_drewN ?_ _ | refine blk_drew ?_ | refine blk_alloc ?_ _)); exact BK152.out⟩, ⟨by (with_reducible repeat (first | refine blk_drewN ?_ _ | refine blk_drew ?_ | refine blk_alloc ?_ _)); exact BK153.out⟩, ⟨by repeat (first | (with_reducible first | exact HB.out | apply below_alloc | apply pw_below_drewN | apply below_drew1 | refine below_set ?_ GE152.out | refine below_set ?_ GE153.out) | exact HB.out)⟩⟩
                          · rw [if_neg c34] at H
                            have c34b0 : (x5_3 == 1) = false := beq_eq_false_iff_ne.mpr c34
                            have c34b1 : (x5_3 != 1) = true := bne_iff_ne.mpr c34
                            (first | rw [c34b0] | (simp only [i64_w, i32_w]; rw [c34b0]) | skip)
                            by_cases c35 : x5_3 > 8
                            · rw [if_pos c35] at H
                              have c35b0 : decide (8 < x5_3) = true := decide_eq_true c35
                              clear c35
                              have H' := Aside0.mk H
                              clear H
                              go_wp2
                              go_meet
                              case rel => exact ⟨_, (true), (by first | rfl | (simp; done) | (simp [*]; done)), H', ⟨by have := HJ1.out; have := HJ13.out; have := HK3.out; have := HJ21.out; first | omega | exact Nat.le_refl _⟩, ⟨by (with_reducible repeat (first | refine blk_drewN ?_ _ | refine blk_drew ?_ | refine blk_alloc ?_ _)); exact BK152.out⟩, ⟨by (with_reducible repeat (first | refine blk_drewN ?_ _ | refine blk_drew ?_ | refine blk_alloc ?_ _)); exact BK153.out⟩, ⟨by repeat (first | (with_reducible first | exact HB.out | apply below_alloc | apply pw_below_drewN | apply below_drew1 | refine below_set ?_ GE152.out | refine below_set ?_ GE153.out) | exact HB.out)⟩⟩
                            · rw [if_neg c35] at H
                              have c35b0 : decide (8 < x5_3) = false := decide_eq_false c35
                              clear c35
                              by_cases c36 : 1 < (a0.size : Int)
                              · rw [if_pos c36] at H
                                have c36b0 : decide (1 < (a0.size : Int)) = true := decide_eq_true c36
                                have c36b1 : decide (1 < a0.size) = true := decide_eq_true (by omega)
                                clear c36
                                by_cases c38 : (bt a0 1) = 48
                                · rw [if_pos c38] at H
                                  have c38b0 : ((bt a0 1) == 48) = true := beq_iff_eq.mpr c38
                                  have c38b1 : ((bt a0 1) != 48) = false := bne_eq_false_iff_eq.mpr c38
                                  clear c38
                                  have H' := Aside0.mk H
                                  clear H
                                  have p37 : 0 ≤ (1 : Int) := (by omega)
                                  have q37 : 1 < a0.size := (by have : (1 : Int) < (a0.size : Int) := of_decide_eq_true (by first | (with_reducible assumption) | assumption); omega)
                                  have hx37 : ∀ h : 1 < a0.size, ((a0[1]'h).toNat : Int) = bt a0 1 := bt_at a0 1
                                  clear p37
                                  have qi37 : (1 < (a0.size : Int)) = True := eq_true (of_decide_eq_true (by first | (with_reducible assumption) | assumption))
                                  replace q37 := eq_true q37
                                  go_wp2
                                  go_meet
                                  case rel => exact ⟨_, (true), (by first | rfl | (simp; done) | (simp [*]; done)), H', ⟨by have := HJ1.out; have := HJ13.out; have := HK3.out; have := HJ21.out; first | omega | exact Nat.le_refl _⟩, ⟨by (with_reducible repeat (first | refine blk_drewN ?_ _ | refine blk_drew ?_ | refine blk_alloc ?_ _)); exact BK152.out⟩, ⟨by (with_reducible repeat (first | refine blk_drewN ?_ _ | refine blk_drew ?_ | refine blk_alloc ?_ _)); exact BK153.out⟩, ⟨by repeat (first | (with_reducible first | exact HB.out | apply below_alloc | apply pw_below_drewN | apply below_drew1 | refine below_set ?_ GE152.out | refine below_set ?_ GE153.out) | exact HB.out)⟩⟩
                                · rw [if_neg c38] at H
                                  have c38b0 : ((bt a0 1) == 48) = false := beq_eq_false_iff_ne.mpr c38
                                  have c38b1 : ((bt a0 1) != 48) = true := bne_iff_ne.mpr c38
                                  by_cases c39 : x5_3 = (a0.size : Int)
                                  · rw [if_pos c39] at H
                                    have c39b0 : (x5_3 == (a0.size : Int)) = true := beq_iff_eq.mpr c39
                                    have c39b1 : (x5_3 != (a0.size : Int)) = false := bne_eq_false_iff_eq.mpr c39
                                    clear c39
                                    have H' := Aside0.mk H
                                    clear H
                                    have p37 : 0 ≤ (1 : Int) := (by omega)
                                    have q37 : 1 < a0.size := (by have : (1 : Int) < (a0.size : Int) := of_decide_eq_true (by first | (with_reducible assumption) | assumption); omega)
                                    have hx37 : ∀ h : 1 < a0.size, ((a0[1]'h).toNat : Int) = bt a0 1 := bt_at a0 1
                                    clear p37
                                    have qi37 : (1 < (a0.size : Int)) = True := eq_true (of_decide_eq_true (by first | (with_reducible assumption) | assumption))
                                    replace q37 := eq_true q37
                                    go_wp2
                                    go_meet
                                    case rel => exact ⟨_, (true), (by first | rfl | (simp; done) | (simp [*]; done)), H', ⟨by have := HJ1.out; have := HJ13.out; have := HK3.out; have := HJ21.out; first | omega | exact Nat.le_refl _⟩, ⟨by (with_reducible repeat (first | refine blk_drewN ?_ _ | refine blk_drew ?_ | refine blk_alloc ?_ _)); exact BK152.out⟩, ⟨by (with_reducible repeat (first | refine blk_drewN ?_ _ | refine blk_drew ?_ | refine blk_alloc ?_ _)); exact BK153.out⟩, ⟨by repeat (first | (with_reducible first | exact HB.out | apply below_alloc | apply pw_below_drewN | apply below_drew1 | refine below_set ?_ GE152.out | refine below_set ?_ GE153.out) | exact HB.out)⟩⟩
                                  · rw [if_neg c39] at H
                                    have c39b0 : (x5_3 == (a0.size : Int)) = false := beq_eq_false_iff_ne.mpr c39
                                    have c39b1 : (x5_3 != (a0.size : Int)) = true := bne_iff_ne.mpr c39
                                    by_cases c40 : 0 ≤ x5_3
                                    · rw [if_pos c40] at H
                                      have c40b0 : decide (0 ≤ x5_3) = true := decide_eq_true c40
                                      clear c40
                                      by_cases c41 : x5_3 < (a0.size : Int)
                                      · rw [if_pos c41] at H
                                        have c41b0 : decide (x5_3 < (a0.size : Int)) = true := decide_eq_true c41
                                        clear c41
                                        have H' := Aside0.mk H
                                        clear H
                                        have p37 : 0 ≤ (1 : Int) := (by omega)
                                        have q37 : 1 < a0.size := (by have : (1 : Int) < (a0.size : Int) := of_decide_eq_true (by first | (with_reducible assumption) | assumption); omega)
                                        have hx37 : ∀ h : 1 < a0.size, ((a0[1]'h).toNat : Int) = bt a0 1 := bt_at a0 1
                                        clear p37
                                        have qi37 : (1 < (a0.size : Int)) = True := eq_true (of_decide_eq_true (by first | (with_reducible assumption) | assumption))
                                        replace q37 := eq_true q37
                                        have p42 : 0 ≤ (x5_3 : Int) := of_decide_eq_true (by first | (with_reducible assumption) | assumption)
                                        have q42 : x5_3 < (a0.size : Int) := of_decide_eq_true (by first | (with_reducible assumption) | assumption)
                                        have hx42 := bt_at a0 x5_3
                                        replace p42 := eq_true p42
                                        replace q42 := eq_true q42
                                        go_wp2
                                        go_meet
                                        case rel => exact ⟨_, (((bt a0 x5_3) != 47)), (by first | rfl | (simp; done) | (simp [*]; done)), H', ⟨by have := HJ1.out; have := HJ13.out; have := HK3.out; have := HJ21.out; first | omega | exact Nat.le_refl _⟩, ⟨by (with_reducible repeat (first | refine blk_drewN ?_ _ | refine blk_drew ?_ | refine blk_alloc ?_ _)); exact BK152.out⟩, ⟨by (with_reducible repeat (first | refine blk_drewN ?_ _ | refine blk_drew ?_ | refine blk_alloc ?_ _)); exact BK153.out⟩, ⟨by repeat (first | (with_reducible first | exact HB.out | apply below_alloc | apply pw_below_drewN | apply below_drew1 | refine below_set ?_ GE152.out | refine below_set ?_ GE153.out) | exact HB.out)⟩⟩
                                      · rw [if_neg c41] at H
                                        exact absurd H (by simp)
                                    · rw [if_neg c40] at H
                                      exact absurd H (by simp)
                              · rw [if_neg c36] at H
                                exact absurd H (by simp)
                        case rest =>
                          clear HC33
                          try clear c1
                          try clear p1
                          try clear q1
                          try clear hx1
                          try clear qi1
                          try clear c2
                          try clear p2
                          try clear q2
                          try clear hx2
                          try clear c3
                          try clear p3
                          try clear q3
                          try clear hx3
                          try clear qi3
                          try clear c4
                          try clear p4
                          try clear q4
                          try clear hx4
                          try clear c5
                          try clear p6
                          try clear c7
                          try clear c7b0
                          try clear c7b1
                          try clear c8
                          try clear c8b0
                          try clear c8b1
                          try clear p9
                          try clear q9
                          try clear hx9
                          try clear qi9
                          try clear c10
                          try clear c11
                          try clear c15
                          try clear c15b0
                          try clear c15b1
                          try clear c16
                          try clear c16b0
                          try clear c16b1
                          try clear p17
                          try clear q17
                          try clear hx17
                          try clear qi17
                          try clear c18
                          try clear c19
                          try clear c23
                          try clear c23b0
                          try clear c24
                          try clear c24b0
                          try clear p25
                          try clear q25
                          try clear hx25
                          try clear c26
                          try clear c26b0
                          try clear p27
                          try clear q27
                          try clear hx27
                          try clear c28
                          try clear c29
                          try clear c29b0
                          try clear c30
                          try clear c30b0
                          try clear c31
                          try clear c31b0
                          try clear p32
                          try clear q32
                          try clear hx32
                          try clear c34
                          try clear c34b0
                          try clear c34b1
                          try clear c35
                          try clear c35b0
                          try clear c36
                          try clear c36b0
                          try clear c36b1
                          try clear p37
                          try clear q37
                          try clear hx37
                          try clear qi37
                          try clear c38
                          try clear c38b0
                          try clear c38b1
                          try clear c39
                          try clear c39b0
                          try clear c39b1
                          try clear c40
                          try clear c40b0
                          try clear c41
                          try clear c41b0
                          try clear p42
                          try clear q42
                          try clear hx42
                          try clear hcz12_0
                          try clear hcz12_1
                          try clear hcz13_0
                          try clear hcz13_1
                          try clear hcz20_0
                          try clear hcz20_1
                          try clear hcz21_0
                          try clear hcz21_1
                          try clear hcz6_0
                          try clear hcz6_1
                          try clear hfz12_0
                          try clear hfz12_1
                          try clear hfz13_0
                          try clear hfz13_1
                          try clear hfz20_0
                          try clear hfz20_1
                          try clear hfz21_0
                          try clear hfz21_1
                          try clear hfz6_0
                          try clear hfz6_1
                          try clear p1
                          try clear p17
                          try clear p2
                          try clear p25
                          try clear p27
                          try clear p32
                          try clear p37
                          try clear p42
                          try clear p9
                          try clear q1
                          try clear q17
                          try clear q2
                          try clear q25
                          try clear q27
                          try clear q32
                          try clear q37
                          try clear q42
                          try clear q9
                          obtain ⟨kq, x78_32, rfl, HA, HJ32, BK152, BK153, HB⟩ := hcut
                          cases kq with
                          | zero => exact absurd HA.out (by simp [remontoirref03_Parse.j4])
                          | succ kj32 =>
                            have H := HA.out
                            clear HA
                            simp only [remontoirref03_Parse.j4] at H
                            by_cases c43 : x78_32 = true
                            · subst c43
                              have H1 : (some (0, 0, 2)) = some (r1, r2, r3) := by rw [if_pos rfl] at H; exact H
                              clear H
                              have H := H1
                              clear H1
                              simp only [Option.some.injEq, Prod.mk.injEq] at H
                              obtain ⟨rfl, rfl, rfl⟩ := H
                              have hnb44 := NB153_152.out
                              have hnc44 := NB152_153.out
                              have hcz45_0 : wc.cell? ⟨gb153, 0, none⟩ = some (.int .i64 0) := (blk_cell BK153.out 0).trans rfl
                              have hcz45_1 : wc.cell? ⟨gb153, 1, none⟩ = some (.int .u64 0) := (blk_cell BK153.out 1).trans rfl
                              have hfz45_0 := blk_frozen BK153.out 0
                              have hfz45_1 := blk_frozen BK153.out 1
                              have hcz46_0 : wc.cell? ⟨gb152, 0, none⟩ = some (.int .i64 0) := (blk_cell BK152.out 0).trans rfl
                              have hcz46_1 : wc.cell? ⟨gb152, 1, none⟩ = some (.int .u64 0) := (blk_cell BK152.out 1).trans rfl
                              have hfz46_0 := blk_frozen BK152.out 0
                              have hfz46_1 := blk_frozen BK152.out 1
                              go_wp2
                              refine bodyPost_ret (results_ct rfl _ _ gb152 25 #[.int .i64 0, .int .u64 0] (0, 0) _ rfl (by (with_reducible repeat (first | refine blk_drewN ?_ _ | refine blk_drew ?_ | refine blk_alloc ?_ _)); refine blk_put (cs := #[.int .i64 0, .int .u64 0]) ?_ 1 _ rfl; (with_reducible repeat (first | refine blk_drewN ?_ _ | refine blk_drew ?_ | refine blk_alloc ?_ _)); refine blk_put (cs := #[.int .i64 0, .int .u64 0]) ?_ 0 _ rfl; (with_reducible repeat (first | refine blk_drewN ?_ _ | refine blk_drew ?_ | refine blk_alloc ?_ _)); exact BK152.out) Tryd.underlying25 rfl (by kernel_rfl)) rfl ?_
                              exact ⟨by first | rfl | (simp [errW_none, errW_some] <;> rfl) | (simp [*, errW_none, errW_some] <;> rfl), by repeat (first | (with_reducible first | exact HB.out | apply below_alloc | apply pw_below_drewN | apply below_drew1 | refine below_set ?_ GE152.out | refine below_set ?_ GE153.out) | exact HB.out)⟩
                            · replace c43 := Bool.eq_false_iff.mpr c43
                              subst c43
                              have H1 : (if x6_3 > 1000000 then (some (0, 0, 3)) else (if 0 ≤ (wrap64 (x5_3 + 1)) then (if (wrap64 (x5_3 + 1)) ≤ (a0.size : Int) then ((remontoirref02_Parse.f kj32 (a0.extract ((wrap64 (x5_3 + 1)) : Int).toNat a0.size)).bind fun bt154 => (if bt154.2 = 0 then (if bt154.1 = 0 then (some (0, 0, 6)) else (some (x6_3, bt154.1, 0))) else (some (0, 0, bt154.2)))) else (none)) else (none))) = some (r1, r2, r3) := by rw [if_neg (show ¬ (false = true) by decide)] at H; exact H
                              clear H
                              have H := H1
                              clear H1
                              by_cases c47 : x6_3 > 1000000
                              · rw [if_pos c47] at H
                                have c47b0 : decide (1000000 < x6_3) = true := decide_eq_true c47
                                clear c47
                                simp only [Option.some.injEq, Prod.mk.injEq] at H
                                obtain ⟨rfl, rfl, rfl⟩ := H
                                have hnb48 := NB153_152.out
                                have hnc48 := NB152_153.out
                                have hcz49_0 : wc.cell? ⟨gb153, 0, none⟩ = some (.int .i64 0) := (blk_cell BK153.out 0).trans rfl
                                have hcz49_1 : wc.cell? ⟨gb153, 1, none⟩ = some (.int .u64 0) := (blk_cell BK153.out 1).trans rfl
                                have hfz49_0 := blk_frozen BK153.out 0
                                have hfz49_1 := blk_frozen BK153.out 1
                                have hcz50_0 : wc.cell? ⟨gb152, 0, none⟩ = some (.int .i64 0) := (blk_cell BK152.out 0).trans rfl
                                have hcz50_1 : wc.cell? ⟨gb152, 1, none⟩ = some (.int .u64 0) := (blk_cell BK152.out 1).trans rfl
                                have hfz50_0 := blk_frozen BK152.out 0
                                have hfz50_1 := blk_frozen BK152.out 1
                                go_wp2
                                refine bodyPost_ret (results_ct rfl _ _ gb152 25 #[.int .i64 0, .int .u64 0] (0, 0) _ rfl (by (with_reducible repeat (first | refine blk_drewN ?_ _ | refine blk_drew ?_ | refine blk_alloc ?_ _)); refine blk_put (cs := #[.int .i64 0, .int .u64 0]) ?_ 1 _ rfl; (with_reducible repeat (first | refine blk_drewN ?_ _ | refine blk_drew ?_ | refine blk_alloc ?_ _)); refine blk_put (cs := #[.int .i64 0, .int .u64 0]) ?_ 0 _ rfl; (with_reducible repeat (first | refine blk_drewN ?_ _ | refine blk_drew ?_ | refine blk_alloc ?_ _)); exact BK152.out) Tryd.underlying25 rfl (by kernel_rfl)) rfl ?_
                                exact ⟨by first | rfl | (simp [errW_none, errW_some] <;> rfl) | (simp [*, errW_none, errW_some] <;> rfl), by repeat (first | (with_reducible first | exact HB.out | apply below_alloc | apply pw_below_drewN | apply below_drew1 | refine below_set ?_ GE152.out | refine below_set ?_ GE153.out) | exact HB.out)⟩
                              · rw [if_neg c47] at H
                                have c47b0 : decide (1000000 < x6_3) = false := decide_eq_false c47
                                clear c47
                                obtain ⟨ji51, hji51⟩ : ∃ j_ : Int, (wrap64 (x5_3 + 1)) = j_ := ⟨_, rfl⟩
                                replace H : (if 0 ≤ (ji51) then (if (ji51) ≤ (a0.size : Int) then ((remontoirref02_Parse.f kj32 (a0.extract ((ji51) : Int).toNat a0.size)).bind fun bt154 => (if bt154.2 = 0 then (if bt154.1 = 0 then (some (0, 0, 6)) else (some (x6_3, bt154.1, 0))) else (some (0, 0, bt154.2)))) else (none)) else (none)) = some (r1, r2, r3) := by first | (rw [hji51] at H; exact H) | (simp only [hji51] at H ⊢; exact H)
                                have hji51w : (IntKind.i64.wrap (x5_3 + 1)) = ji51 := (i64_w _).trans hji51
                                by_cases c52 : 0 ≤ (ji51)
                                · rw [if_pos c52] at H
                                  have c52b0 := eq_true c52
                                  have c52b1 : decide (0 ≤ (ji51)) = true := decide_eq_true c52
                                  clear c52
                                  by_cases c53 : (ji51) ≤ (a0.size : Int)
                                  · rw [if_pos c53] at H
                                    have c53b0 := eq_true c53
                                    have c53b1 : decide ((ji51) ≤ (a0.size : Int)) = true := decide_eq_true c53
                                    clear c53
                                    replace H := Option.bind_eq_some_iff.mp H
                                    obtain ⟨⟨t154, t155⟩, A540, H⟩ := H
                                    replace H : (if t155 = 0 then (if t154 = 0 then (some (0, 0, 6)) else (some (x6_3, t154, 0))) else (some (0, 0, t155))) = some (r1, r2, r3) := H
                                    have A54 := Aside0.mk A540
                                    clear A540
                                    by_cases c55 : t155 = 0
                                    · rw [if_pos c55] at H
                                      have c55b0 : (t155 == 0) = true := beq_iff_eq.mpr c55
                                      have c55b1 : (t155 != 0) = false := bne_eq_false_iff_eq.mpr c55
                                      clear c55
                                      by_cases c56 : t154 = 0
                                      · rw [if_pos c56] at H
                                        have c56b0 : (t154 == 0) = true := beq_iff_eq.mpr c56
                                        have c56b1 : (t154 != 0) = false := bne_eq_false_iff_eq.mpr c56
                                        clear c56
                                        simp only [Option.some.injEq, Prod.mk.injEq] at H
                                        obtain ⟨rfl, rfl, rfl⟩ := H
                                        go_wp2_with (first | ((with_reducible refine gate_callee (f := 24) rfl ?_); refine goesL_ (some 88) rfl rfl Tryd.func24 (by kernel_rfl) rfl #[.string (a0.extract ((ji51) : Int).toNat a0.size)] rfl (by (try simp only [List.map_toArray, List.map_cons, List.map_nil]); first | done | (simp only [hji51]; rfl) | rfl | (simp only [List.length_drop, List.length_take]; rfl)) ?_; (with_reducible refine (remontoirref02_Parse.calls kj32 (a0.extract ((ji51) : Int).toNat a0.size) t154 t155 _ A54.out).mono ?_); rintro e w57 ⟨rfl, hb⟩; refine ⟨_, rfl, ?_⟩; have n0_ := Aside0.mk (blk_below (g := gb152) (o := .cells #[.int .i64 0, .int .u64 0] 25 (0, 0)) (by (with_reducible repeat (first | refine blk_drewN ?_ _ | refine blk_drew ?_ | refine blk_alloc ?_ _)); exact BK152.out) hb); have n1_ := Aside0.mk (blk_below (g := gb153) (o := .cells #[.int .i64 0, .int .u64 0] 25 (0, 0)) (by (with_reducible repeat (first | refine blk_drewN ?_ _ | refine blk_drew ?_ | refine blk_alloc ?_ _)); exact BK153.out) hb); have n2_ := Aside0.mk (below_step (by repeat (first | (with_reducible first | exact HB.out | apply below_alloc | apply pw_below_drewN | apply below_drew1 | refine below_set ?_ GE152.out | refine below_set ?_ GE153.out) | exact HB.out)) hb); clear BK152; clear BK153; clear HB; have BK152 := n0_; have BK153 := n1_; have HB := n2_; clear n0_ n1_ n2_; (try clear hb); (try clear hb2); (try clear hk); (try clear hi); have hnb58 := NB153_152.out; have hnc58 := NB152_153.out; have hcz59_0 : w57.cell? ⟨gb153, 0, none⟩ = some (.int .i64 0) := (blk_cell BK153.out 0).trans rfl; have hcz59_1 : w57.cell? ⟨gb153, 1, none⟩ = some (.int .u64 0) := (blk_cell BK153.out 1).trans rfl; have hfz59_0 := blk_frozen BK153.out 0; have hfz59_1 := blk_frozen BK153.out 1; have hcz60_0 : w57.cell? ⟨gb152, 0, none⟩ = some (.int .i64 0) := (blk_cell BK152.out 0).trans rfl; have hcz60_1 : w57.cell? ⟨gb152, 1, none⟩ = some (.int .u64 0) := (blk_cell BK152.out 1).trans rfl; have hfz60_0 := blk_frozen BK152.out 0; have hfz60_1 := blk_frozen BK152.out 1))
                                        refine bodyPost_ret (results_ct rfl _ _ gb152 25 #[.int .i64 0, .int .u64 0] (0, 0) _ rfl (by (with_reducible repeat (first | refine blk_drewN ?_ _ | refine blk_drew ?_ | refine blk_alloc ?_ _)); refine blk_put (cs := #[.int .i64 0, .int .u64 0]) ?_ 1 _ rfl; (with_reducible repeat (first | refine blk_drewN ?_ _ | refine blk_drew ?_ | refine blk_alloc ?_ _)); refine blk_put (cs := #[.int .i64 0, .int .u64 0]) ?_ 0 _ rfl; (with_reducible repeat (first | refine blk_drewN ?_ _ | refine blk_drew ?_ | refine blk_alloc ?_ _)); exact BK152.out) Tryd.underlying25 rfl (by kernel_rfl)) rfl ?_
                                        exact ⟨by first | rfl | (simp [errW_none, errW_some] <;> rfl) | (simp only [← hji51]; first | rfl | (simp [errW_none, errW_some] <;> rfl)) | (simp [*, errW_none, errW_some] <;> rfl), by repeat (first | (with_reducible first | exact HB.out | apply below_alloc | apply pw_below_drewN | apply below_drew1 | refine below_set ?_ GE152.out | refine below_set ?_ GE153.out) | exact HB.out)⟩
                                      · rw [if_neg c56] at H
                                        have c56b0 : (t154 == 0) = false := beq_eq_false_iff_ne.mpr c56
                                        have c56b1 : (t154 != 0) = true := bne_iff_ne.mpr c56
                                        simp only [Option.some.injEq, Prod.mk.injEq] at H
                                        obtain ⟨rfl, rfl, rfl⟩ := H
                                        go_wp2_with (first | ((with_reducible refine gate_callee (f := 24) rfl ?_); refine goesL_ (some 88) rfl rfl Tryd.func24 (by kernel_rfl) rfl #[.string (a0.extract ((ji51) : Int).toNat a0.size)] rfl (by (try simp only [List.map_toArray, List.map_cons, List.map_nil]); first | done | (simp only [hji51]; rfl) | rfl | (simp only [List.length_drop, List.length_take]; rfl)) ?_; (with_reducible refine (remontoirref02_Parse.calls kj32 (a0.extract ((ji51) : Int).toNat a0.size) t154 t155 _ A54.out).mono ?_); rintro e w61 ⟨rfl, hb⟩; refine ⟨_, rfl, ?_⟩; have n0_ := Aside0.mk (blk_below (g := gb152) (o := .cells #[.int .i64 0, .int .u64 0] 25 (0, 0)) (by (with_reducible repeat (first | refine blk_drewN ?_ _ | refine blk_drew ?_ | refine blk_alloc ?_ _)); exact BK152.out) hb); have n1_ := Aside0.mk (blk_below (g := gb153) (o := .cells #[.int .i64 0, .int .u64 0] 25 (0, 0)) (by (with_reducible repeat (first | refine blk_drewN ?_ _ | refine blk_drew ?_ | refine blk_alloc ?_ _)); exact BK153.out) hb); have n2_ := Aside0.mk (below_step (by repeat (first | (with_reducible first | exact HB.out | apply below_alloc | apply pw_below_drewN | apply below_drew1 | refine below_set ?_ GE152.out | refine below_set ?_ GE153.out) | exact HB.out)) hb); clear BK152; clear BK153; clear HB; have BK152 := n0_; have BK153 := n1_; have HB := n2_; clear n0_ n1_ n2_; (try clear hb); (try clear hb2); (try clear hk); (try clear hi); have hnb62 := NB152_153.out; have hnc62 := NB153_152.out; have hcz63_0 : w61.cell? ⟨gb152, 0, none⟩ = some (.int .i64 0) := (blk_cell BK152.out 0).trans rfl; have hcz63_1 : w61.cell? ⟨gb152, 1, none⟩ = some (.int .u64 0) := (blk_cell BK152.out 1).trans rfl; have hfz63_0 := blk_frozen BK152.out 0; have hfz63_1 := blk_frozen BK152.out 1))
                                        refine bodyPost_ret (results_ct rfl _ _ gb152 25 #[.int .i64 x6_3, .int .u64 t154] (0, 0) _ rfl (by (with_reducible repeat (first | refine blk_drewN ?_ _ | refine blk_drew ?_ | refine blk_alloc ?_ _)); refine blk_put (cs := #[.int .i64 x6_3, .int .u64 0]) ?_ 1 _ rfl; (with_reducible repeat (first | refine blk_drewN ?_ _ | refine blk_drew ?_ | refine blk_alloc ?_ _)); refine blk_put (cs := #[.int .i64 0, .int .u64 0]) ?_ 0 _ rfl; (with_reducible repeat (first | refine blk_drewN ?_ _ | refine blk_drew ?_ | refine blk_alloc ?_ _)); exact BK152.out) Tryd.underlying25 rfl (by kernel_rfl)) rfl ?_
                                        exact ⟨by first | rfl | (simp [errW_none, errW_some] <;> rfl) | (simp only [← hji51]; first | rfl | (simp [errW_none, errW_some] <;> rfl)) | (simp [*, errW_none, errW_some] <;> rfl), by repeat (first | (with_reducible first | exact HB.out | apply below_alloc | apply pw_below_drewN | apply below_drew1 | refine below_set ?_ GE152.out | refine below_set ?_ GE153.out) | exact HB.out)⟩
                                    · rw [if_neg c55] at H
                                      have c55b0 : (t155 == 0) = false := beq_eq_false_iff_ne.mpr c55
                                      have c55b1 : (t155 != 0) = true := bne_iff_ne.mpr c55
                                      simp only [Option.some.injEq, Prod.mk.injEq] at H
                                      obtain ⟨rfl, rfl, rfl⟩ := H
                                      go_wp2_with (first | ((with_reducible refine gate_callee (f := 24) rfl ?_); refine goesL_ (some 88) rfl rfl Tryd.func24 (by kernel_rfl) rfl #[.string (a0.extract ((ji51) : Int).toNat a0.size)] rfl (by (try simp only [List.map_toArray, List.map_cons, List.map_nil]); first | done | (simp only [hji51]; rfl) | rfl | (simp only [List.length_drop, List.length_take]; rfl)) ?_; (with_reducible refine (remontoirref02_Parse.calls kj32 (a0.extract ((ji51) : Int).toNat a0.size) t154 t155 _ A54.out).mono ?_); rintro e w64 ⟨rfl, hb⟩; refine ⟨_, rfl, ?_⟩; have n0_ := Aside0.mk (blk_below (g := gb152) (o := .cells #[.int .i64 0, .int .u64 0] 25 (0, 0)) (by (with_reducible repeat (first | refine blk_drewN ?_ _ | refine blk_drew ?_ | refine blk_alloc ?_ _)); exact BK152.out) hb); have n1_ := Aside0.mk (blk_below (g := gb153) (o := .cells #[.int .i64 0, .int .u64 0] 25 (0, 0)) (by (with_reducible repeat (first | refine blk_drewN ?_ _ | refine blk_drew ?_ | refine blk_alloc ?_ _)); exact BK153.out) hb); have n2_ := Aside0.mk (below_step (by repeat (first | (with_reducible first | exact HB.out | apply below_alloc | apply pw_below_drewN | apply below_drew1 | refine below_set ?_ GE152.out | refine below_set ?_ GE153.out) | exact HB.out)) hb); clear BK152; clear BK153; clear HB; have BK152 := n0_; have BK153 := n1_; have HB := n2_; clear n0_ n1_ n2_; (try clear hb); (try clear hb2); (try clear hk); (try clear hi); have hnb65 := NB153_152.out; have hnc65 := NB152_153.out; have hcz66_0 : w64.cell? ⟨gb153, 0, none⟩ = some (.int .i64 0) := (blk_cell BK153.out 0).trans rfl; have hcz66_1 : w64.cell? ⟨gb153, 1, none⟩ = some (.int .u64 0) := (blk_cell BK153.out 1).trans rfl; have hfz66_0 := blk_frozen BK153.out 0; have hfz66_1 := blk_frozen BK153.out 1; have hcz67_0 : w64.cell? ⟨gb152, 0, none⟩ = some (.int .i64 0) := (blk_cell BK152.out 0).trans rfl; have hcz67_1 : w64.cell? ⟨gb152, 1, none⟩ = some (.int .u64 0) := (blk_cell BK152.out 1).trans rfl; have hfz67_0 := blk_frozen BK152.out 0; have hfz67_1 := blk_frozen BK152.out 1))
                                      refine bodyPost_ret (results_ct rfl _ _ gb152 25 #[.int .i64 0, .int .u64 0] (0, 0) _ rfl (by (with_reducible repeat (first | refine blk_drewN ?_ _ | refine blk_drew ?_ | refine blk_alloc ?_ _)); refine blk_put (cs := #[.int .i64 0, .int .u64 0]) ?_ 1 _ rfl; (with_reducible repeat (first | refine blk_drewN ?_ _ | refine blk_drew ?_ | refine blk_alloc ?_ _)); refine blk_put (cs := #[.int .i64 0, .int .u64 0]) ?_ 0 _ rfl; (with_reducible repeat (first | refine blk_drewN ?_ _ | refine blk_drew ?_ | refine blk_alloc ?_ _)); exact BK152.out) Tryd.underlying25 rfl (by kernel_rfl)) rfl ?_
                                      exact ⟨by first | rfl | (simp [errW_none, errW_some] <;> rfl) | (simp only [← hji51]; first | rfl | (simp [errW_none, errW_some] <;> rfl)) | (simp [*, errW_none, errW_some] <;> rfl), by repeat (first | (with_reducible first | exact HB.out | apply below_alloc | apply pw_below_drewN | apply below_drew1 | refine below_set ?_ GE152.out | refine below_set ?_ GE153.out) | exact HB.out)⟩
                                  · rw [if_neg c53] at H
                                    exact absurd H (by simp)
                                · rw [if_neg c52] at H
                                  exact absurd H (by simp)

end Go.Proofs.YtjkdibkgmfnkdaaDoor.Q
