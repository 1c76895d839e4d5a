/- What Go functions compute, as plain Lean functions, and that the machine comes to just that: written by wip/tools/printx.py (my run of the printer, with contracts of mine beside it). -/
import Derived.Test.YtcaegaljhogbjaaGreatDoorOn
import Derived.Test.YtcaegaljhogbjaaGreatDoorRefFlow
import Derived.Test.YtcaegaljhogbjaaGreatDoorYx0
import Derived.Test.YtcaegaljhogbjaaGreatDoorYx1
import Derived.Test.YtcaegaljhogbjaaGreatDoorRefNode
import Derived.Test.YtcaegaljhogbjaaGreatDoorYx3
import Derived.Test.YtcaegaljhogbjaaGreatDoorYx4
namespace Go.Proofs.YtcaegaljhogbjaaGreatDoor.Y
open Go.Proofs.YtcaegaljhogbjaaGreatDoor.Gr
open Go.Proofs.YtcaegaljhogbjaaGreatDoor.Ext Go.Proofs.YtcaegaljhogbjaaGreatDoor.B Go.Proofs.YtcaegaljhogbjaaGreatDoor.Q Go.RowKit Go.Proofs.YtcaegaljhogbjaaGreatDoorW.PrintWords Go.Proofs.YtcaegaljhogbjaaGreatDoorW.PrintLast Go.Proofs.YtcaegaljhogbjaaGreatDoorW.PrintMore
attribute [local go_sem] max2_int min2_int max_two min_two max_three min_three max_four min_four   -- for this text's walks alone
set_option linter.unusedVariables false
set_option linter.unusedSimpArgs false

/-! ### zac: function 10 -/
mutual
def zac.j0 : Nat → Bool → ByteArray → List (S38) → List (S40) → Option (Int × Int)
 | 0, _, _, _, _ => none
 | k + 1, x26, x171000, x171001, x171002 => if x26 = true then (some (0, 15)) else (zac.l0 k 1 x171000 x171001 x171002)
def zac.l0 : Nat → Int → ByteArray → List (S38) → List (S40) → Option (Int × Int)
 | 0, _, _, _, _ => none
 | k + 1, x4, x171000, x171001, x171002 => if x4 ≤ (x171001.length : Int) then ((zao.f k x171000 x171001 x171002 x4).bind fun t171 => (if t171 = 0 then (zac.l0 k (wrap64 (x4 + 1)) x171000 x171001 x171002) else (some (x4, t171)))) else (zac.l1 k 1 x171000 x171001 x171002)
def zac.l1 : Nat → Int → ByteArray → List (S38) → List (S40) → Option (Int × Int)
 | 0, _, _, _, _ => none
 | k + 1, x6, x171000, x171001, x171002 => if x6 ≤ (x171002.length : Int) then ((zap.f k x171000 x171001 x171002 x6).bind fun t172 => (if t172 = 0 then (zac.l1 k (wrap64 (x6 + 1)) x171000 x171001 x171002) else (some (x6, t172)))) else (zac.l2 k 1 x171000 x171001 x171002)
def zac.l2 : Nat → Int → ByteArray → List (S38) → List (S40) → Option (Int × Int)
 | 0, _, _, _, _ => none
 | k + 1, x8, x171000, x171001, x171002 => if x8 ≤ (x171001.length : Int) then ((zah.f k x171000 x171001 x171002 x8).bind fun t173 => (if t173 = true then (zac.l2 k (wrap64 (x8 + 1)) x171000 x171001 x171002) else (some (x8, 19)))) else (zac.l3 k 0 x171000 x171001 x171002)
def zac.l3 : Nat → Int → ByteArray → List (S38) → List (S40) → Option (Int × Int)
 | 0, _, _, _, _ => none
 | k + 1, x9, x171000, x171001, x171002 => if x9 ≤ (x171001.length : Int) then (if x9 = 0 then ((zaj.f k x171000 x171001 x171002 x9).bind fun t174 => (if t174 = true then (zac.l3 k (wrap64 (x9 + 1)) x171000 x171001 x171002) else (some (x9, 19)))) else ((zaq.f x171000 x171001 x171002 x9).bind fun t175 => (if t175 = true then ((zaj.f k x171000 x171001 x171002 x9).bind fun t176 => (if t176 = true then (zac.l3 k (wrap64 (x9 + 1)) x171000 x171001 x171002) else (some (x9, 19)))) else (zac.l3 k (wrap64 (x9 + 1)) x171000 x171001 x171002)))) else (zac.l4 k 1 x171000 x171001 x171002)
def zac.l4 : Nat → Int → ByteArray → List (S38) → List (S40) → Option (Int × Int)
 | 0, _, _, _, _ => none
 | k + 1, x10, x171000, x171001, x171002 => if x10 ≤ (x171001.length : Int) then ((zal.f k x171000 x171001 x171002 x10).bind fun t177 => (if t177 > 5 then (some (x10, 15)) else (zac.l4 k (wrap64 (x10 + 1)) x171000 x171001 x171002))) else (some (0, 0))
end
def zac.f (k : Nat) (a0_0 : ByteArray) (l0_1 : List (S38)) (l0_2 : List (S40)) : Option (Int × Int) := if (l0_1.length : Int) = 0 then (zac.j0 k true a0_0 l0_1 l0_2) else (if (l0_1.length : Int) > 60 then (zac.j0 k true a0_0 l0_1 l0_2) else (zac.j0 k (decide ((l0_2.length : Int) > 90)) a0_0 l0_1 l0_2))
theorem zac.mono_l : ∀ k, (∀ y0 y1 y2 y3, LeO (zac.j0 k y0 y1 y2 y3) (zac.j0 (k + 1) y0 y1 y2 y3)) ∧ (∀ y0 y1 y2 y3, LeO (zac.l0 k y0 y1 y2 y3) (zac.l0 (k + 1) y0 y1 y2 y3)) ∧ (∀ y0 y1 y2 y3, LeO (zac.l1 k y0 y1 y2 y3) (zac.l1 (k + 1) y0 y1 y2 y3)) ∧ (∀ y0 y1 y2 y3, LeO (zac.l2 k y0 y1 y2 y3) (zac.l2 (k + 1) y0 y1 y2 y3)) ∧ (∀ y0 y1 y2 y3, LeO (zac.l3 k y0 y1 y2 y3) (zac.l3 (k + 1) y0 y1 y2 y3)) ∧ (∀ y0 y1 y2 y3, LeO (zac.l4 k y0 y1 y2 y3) (zac.l4 (k + 1) y0 y1 y2 y3))
 | 0 => ⟨fun _ _ _ _ r h => by simp [zac.j0] at h, fun _ _ _ _ r h => by simp [zac.l0] at h, fun _ _ _ _ r h => by simp [zac.l1] at h, fun _ _ _ _ r h => by simp [zac.l2] at h, fun _ _ _ _ r h => by simp [zac.l3] at h, fun _ _ _ _ r h => by simp [zac.l4] at h⟩
 | k + 1 => by
  obtain ⟨ih0, ih1, ih2, ih3, ih4, ih5⟩ := zac.mono_l k
  refine ⟨?_, ?_, ?_, ?_, ?_, ?_⟩
  ·
   intro y0 y1 y2 y3
   unfold zac.j0
   repeat' first
   | (with_reducible exact ih0 _ _ _ _)
   | (with_reducible exact ih1 _ _ _ _)
   | (with_reducible exact ih2 _ _ _ _)
   | (with_reducible exact ih3 _ _ _ _)
   | (with_reducible exact ih4 _ _ _ _)
   | (with_reducible exact ih5 _ _ _ _)
   | (with_reducible exact zal.mono _ _ _ _ _)
   | (with_reducible exact zah.mono _ _ _ _ _)
   | (with_reducible exact zaj.mono _ _ _ _ _)
   | (with_reducible exact zap.mono _ _ _ _ _)
   | (with_reducible exact zao.mono _ _ _ _ _)
   | (with_reducible exact LeO.refl _)
   | (with_reducible exact LeO.none _)
   | (with_reducible refine LeO.ite ?_ ?_)
   | (with_reducible refine LeO.bind ?_ (fun _ => ?_))
   | exact ih0 _ _ _ _
   | exact ih1 _ _ _ _
   | exact ih2 _ _ _ _
   | exact ih3 _ _ _ _
   | exact ih4 _ _ _ _
   | exact ih5 _ _ _ _
   | exact zal.mono _ _ _ _ _
   | exact zah.mono _ _ _ _ _
   | exact zaj.mono _ _ _ _ _
   | exact zap.mono _ _ _ _ _
   | exact zao.mono _ _ _ _ _
   | exact LeO.none _
   | refine LeO.ite ?_ ?_
   | refine LeO.bind ?_ (fun _ => ?_)
  ·
   intro y0 y1 y2 y3
   unfold zac.l0
   repeat' first
   | (with_reducible exact ih0 _ _ _ _)
   | (with_reducible exact ih1 _ _ _ _)
   | (with_reducible exact ih2 _ _ _ _)
   | (with_reducible exact ih3 _ _ _ _)
   | (with_reducible exact ih4 _ _ _ _)
   | (with_reducible exact ih5 _ _ _ _)
   | (with_reducible exact zal.mono _ _ _ _ _)
   | (with_reducible exact zah.mono _ _ _ _ _)
   | (with_reducible exact zaj.mono _ _ _ _ _)
   | (with_reducible exact zap.mono _ _ _ _ _)
   | (with_reducible exact zao.mono _ _ _ _ _)
   | (with_reducible exact LeO.refl _)
   | (with_reducible exact LeO.none _)
   | (with_reducible refine LeO.ite ?_ ?_)
   | (with_reducible refine LeO.bind ?_ (fun _ => ?_))
   | exact ih0 _ _ _ _
   | exact ih1 _ _ _ _
   | exact ih2 _ _ _ _
   | exact ih3 _ _ _ _
   | exact ih4 _ _ _ _
   | exact ih5 _ _ _ _
   | exact zal.mono _ _ _ _ _
   | exact zah.mono _ _ _ _ _
   | exact zaj.mono _ _ _ _ _
   | exact zap.mono _ _ _ _ _
   | exact zao.mono _ _ _ _ _
   | exact LeO.none _
   | refine LeO.ite ?_ ?_
   | refine LeO.bind ?_ (fun _ => ?_)
  ·
   intro y0 y1 y2 y3
   unfold zac.l1
   repeat' first
   | (with_reducible exact ih0 _ _ _ _)
   | (with_reducible exact ih1 _ _ _ _)
   | (with_reducible exact ih2 _ _ _ _)
   | (with_reducible exact ih3 _ _ _ _)
   | (with_reducible exact ih4 _ _ _ _)
   | (with_reducible exact ih5 _ _ _ _)
   | (with_reducible exact zal.mono _ _ _ _ _)
   | (with_reducible exact zah.mono _ _ _ _ _)
   | (with_reducible exact zaj.mono _ _ _ _ _)
   | (with_reducible exact zap.mono _ _ _ _ _)
   | (with_reducible exact zao.mono _ _ _ _ _)
   | (with_reducible exact LeO.refl _)
   | (with_reducible exact LeO.none _)
   | (with_reducible refine LeO.ite ?_ ?_)
   | (with_reducible refine LeO.bind ?_ (fun _ => ?_))
   | exact ih0 _ _ _ _
   | exact ih1 _ _ _ _
   | exact ih2 _ _ _ _
   | exact ih3 _ _ _ _
   | exact ih4 _ _ _ _
   | exact ih5 _ _ _ _
   | exact zal.mono _ _ _ _ _
   | exact zah.mono _ _ _ _ _
   | exact zaj.mono _ _ _ _ _
   | exact zap.mono _ _ _ _ _
   | exact zao.mono _ _ _ _ _
   | exact LeO.none _
   | refine LeO.ite ?_ ?_
   | refine LeO.bind ?_ (fun _ => ?_)
  ·
   intro y0 y1 y2 y3
   unfold zac.l2
   repeat' first
   | (with_reducible exact ih0 _ _ _ _)
   | (with_reducible exact ih1 _ _ _ _)
   | (with_reducible exact ih2 _ _ _ _)
   | (with_reducible exact ih3 _ _ _ _)
   | (with_reducible exact ih4 _ _ _ _)
   | (with_reducible exact ih5 _ _ _ _)
   | (with_reducible exact zal.mono _ _ _ _ _)
   | (with_reducible exact zah.mono _ _ _ _ _)
   | (with_reducible exact zaj.mono _ _ _ _ _)
   | (with_reducible exact zap.mono _ _ _ _ _)
   | (with_reducible exact zao.mono _ _ _ _ _)
   | (with_reducible exact LeO.refl _)
   | (with_reducible exact LeO.none _)
   | (with_reducible refine LeO.ite ?_ ?_)
   | (with_reducible refine LeO.bind ?_ (fun _ => ?_))
   | exact ih0 _ _ _ _
   | exact ih1 _ _ _ _
   | exact ih2 _ _ _ _
   | exact ih3 _ _ _ _
   | exact ih4 _ _ _ _
   | exact ih5 _ _ _ _
   | exact zal.mono _ _ _ _ _
   | exact zah.mono _ _ _ _ _
   | exact zaj.mono _ _ _ _ _
   | exact zap.mono _ _ _ _ _
   | exact zao.mono _ _ _ _ _
   | exact LeO.none _
   | refine LeO.ite ?_ ?_
   | refine LeO.bind ?_ (fun _ => ?_)
  ·
   intro y0 y1 y2 y3
   unfold zac.l3
   repeat' first
   | (with_reducible exact ih0 _ _ _ _)
   | (with_reducible exact ih1 _ _ _ _)
   | (with_reducible exact ih2 _ _ _ _)
   | (with_reducible exact ih3 _ _ _ _)
   | (with_reducible exact ih4 _ _ _ _)
   | (with_reducible exact ih5 _ _ _ _)
   | (with_reducible exact zal.mono _ _ _ _ _)
   | (with_reducible exact zah.mono _ _ _ _ _)
   | (with_reducible exact zaj.mono _ _ _ _ _)
   | (with_reducible exact zap.mono _ _ _ _ _)
   | (with_reducible exact zao.mono _ _ _ _ _)
   | (with_reducible exact LeO.refl _)
   | (with_reducible exact LeO.none _)
   | (with_reducible refine LeO.ite ?_ ?_)
   | (with_reducible refine LeO.bind ?_ (fun _ => ?_))
   | exact ih0 _ _ _ _
   | exact ih1 _ _ _ _
   | exact ih2 _ _ _ _
   | exact ih3 _ _ _ _
   | exact ih4 _ _ _ _
   | exact ih5 _ _ _ _
   | exact zal.mono _ _ _ _ _
   | exact zah.mono _ _ _ _ _
   | exact zaj.mono _ _ _ _ _
   | exact zap.mono _ _ _ _ _
   | exact zao.mono _ _ _ _ _
   | exact LeO.none _
   | refine LeO.ite ?_ ?_
   | refine LeO.bind ?_ (fun _ => ?_)
  ·
   intro y0 y1 y2 y3
   unfold zac.l4
   repeat' first
   | (with_reducible exact ih0 _ _ _ _)
   | (with_reducible exact ih1 _ _ _ _)
   | (with_reducible exact ih2 _ _ _ _)
   | (with_reducible exact ih3 _ _ _ _)
   | (with_reducible exact ih4 _ _ _ _)
   | (with_reducible exact ih5 _ _ _ _)
   | (with_reducible exact zal.mono _ _ _ _ _)
   | (with_reducible exact zah.mono _ _ _ _ _)
   | (with_reducible exact zaj.mono _ _ _ _ _)
   | (with_reducible exact zap.mono _ _ _ _ _)
   | (with_reducible exact zao.mono _ _ _ _ _)
   | (with_reducible exact LeO.refl _)
   | (with_reducible exact LeO.none _)
   | (with_reducible refine LeO.ite ?_ ?_)
   | (with_reducible refine LeO.bind ?_ (fun _ => ?_))
   | exact ih0 _ _ _ _
   | exact ih1 _ _ _ _
   | exact ih2 _ _ _ _
   | exact ih3 _ _ _ _
   | exact ih4 _ _ _ _
   | exact ih5 _ _ _ _
   | exact zal.mono _ _ _ _ _
   | exact zah.mono _ _ _ _ _
   | exact zaj.mono _ _ _ _ _
   | exact zap.mono _ _ _ _ _
   | exact zao.mono _ _ _ _ _
   | exact LeO.none _
   | refine LeO.ite ?_ ?_
   | refine LeO.bind ?_ (fun _ => ?_)
theorem zac.mono : ∀ a0 a1 a2 k, LeO (zac.f k a0 a1 a2) (zac.f (k + 1) a0 a1 a2) := by
 intro a0 a1 a2 k
 obtain ⟨ih0, ih1, ih2, ih3, ih4, ih5⟩ := zac.mono_l k
 unfold zac.f
 repeat' first
   | (with_reducible exact ih0 _ _ _ _)
   | (with_reducible exact ih1 _ _ _ _)
   | (with_reducible exact ih2 _ _ _ _)
   | (with_reducible exact ih3 _ _ _ _)
   | (with_reducible exact ih4 _ _ _ _)
   | (with_reducible exact ih5 _ _ _ _)
   | (with_reducible exact zal.mono _ _ _ _ _)
   | (with_reducible exact zah.mono _ _ _ _ _)
   | (with_reducible exact zaj.mono _ _ _ _ _)
   | (with_reducible exact zap.mono _ _ _ _ _)
   | (with_reducible exact zao.mono _ _ _ _ _)
   | (with_reducible exact LeO.refl _)
   | (with_reducible exact LeO.none _)
   | (with_reducible refine LeO.ite ?_ ?_)
   | (with_reducible refine LeO.bind ?_ (fun _ => ?_))
   | exact ih0 _ _ _ _
   | exact ih1 _ _ _ _
   | exact ih2 _ _ _ _
   | exact ih3 _ _ _ _
   | exact ih4 _ _ _ _
   | exact ih5 _ _ _ _
   | exact zal.mono _ _ _ _ _
   | exact zah.mono _ _ _ _ _
   | exact zaj.mono _ _ _ _ _
   | exact zap.mono _ _ _ _ _
   | exact zao.mono _ _ _ _ _
   | exact LeO.none _
   | refine LeO.ite ?_ ?_
   | refine LeO.bind ?_ (fun _ => ?_)
set_option maxHeartbeats 8000000 in
set_option maxRecDepth 100000 in
theorem zac.calls (k : Nat) (a0_0 : ByteArray) (A0_1 : Option Addr) (c0_1 : Nat) (l0_1 : List (S38)) (A0_2 : Option Addr) (c0_2 : Nat) (l0_2 : List (S40)) (r1 : Int) (r2 : Int) (w : World) (hr0_1 : Kd.C k38 w A0_1 l0_1.length l0_1) (hc0_1 : l0_1.length ≤ c0_1) (hr0_2 : Kd.C k40 w A0_2 l0_2.length l0_2) (hc0_2 : l0_2.length ≤ c0_2) (h : zac.f k a0_0 l0_1 l0_2 = some (r1, r2)) :
  Calls Tryz.prog 10 #[.agg #[.string a0_0, .slice A0_1 l0_1.length c0_1, .slice A0_2 l0_2.length c0_2]] w fun e w' => e = .returned (.tuple #[.int .i64 r1, .int .i64 r2]) ∧ Below w.heap.size w w' := by
 have hu25 := Tryz.underlying25
 have HR0_1 := mk0 hr0_1
 have HC0_1 := mk0 hc0_1
 clear hr0_1 hc0_1
 have HR0_2 := mk0 hr0_2
 have HC0_2 := mk0 hc0_2
 clear hr0_2 hc0_2
 have HB := mk0 (Below.refl w.heap.size w)
 have H : (if (l0_1.length : Int) = 0 then (zac.j0 k true a0_0 l0_1 l0_2) else (if (l0_1.length : Int) > 60 then (zac.j0 k true a0_0 l0_1 l0_2) else (zac.j0 k (decide ((l0_2.length : Int) > 90)) a0_0 l0_1 l0_2))) = some (r1, r2) := h
 clear h
 have HC2 := mk0 H
 clear H
 go_enter Tryz.func10, Tryz.ntmps10
 go_upto_region 1 with (first | ((with_reducible refine gate_dst (N := 1) rfl ?_); (try (refine gate_guard (by rfl) ?_; dsimp only)); refine box_event ?hg (N := 1) ?hd (cs := #[.string a0_0, .slice A0_1 l0_1.length c0_1, .slice A0_2 l0_2.length c0_2]) (t := 25) ?hr ?_; (case hd => rfl); (case hg => rfl); (case hr => first | (go_simp; done) | (go_simp; rfl)); intro gb170 hg w3 hbox hb; have n0_ := mk0 (bst HB.out hb); have n1_ := mk0 (hbox); have n2_ := mk0 (gle hg HB.out); have n3_ := mk0 (gle hg HB.out); clear HB; have HB := n0_; have BK170 := n1_; have GW170 := n2_; have GE170 := n3_; clear n0_ n1_ n2_ n3_; clear hb hbox hg))
 (try simp only [Act.put, List.setIfInBounds_toArray, List.set_cons_zero, List.set_cons_succ])
 go_cut [26] (fun v26 wc => ∃ (kq : Nat) (x26_1 : Bool), v26 = .bool x26_1 ∧ Aside0 (zac.j0 kq x26_1 a0_0 l0_1 l0_2 = some (r1, r2)) ∧ Aside0 (kq ≤ k) ∧ Aside0 (wc.heap[gb170]? = some (.cells #[.string a0_0, (.slice A0_1 l0_1.length c0_1), (.slice A0_2 l0_2.length c0_2)] 25 (0, 0))) ∧ Aside0 (Below w.heap.size w wc))
 case first =>
  have H := HC2.out
  clear HC2
  by_cases c4 : (l0_1.length : Int) = 0
  ·
   rw [if_pos c4] at H
   have c4b0 : ((l0_1.length : Int) == 0) = true := beq_iff_eq.mpr c4
   have c4b1 : ((l0_1.length : Int) != 0) = false := bne_eq_false_iff_eq.mpr c4
   clear c4
   (first | rw [c4b0] | (simp only [i64_w, i32_w]; rw [c4b0]) | skip)
   have H' := mk0 H
   clear H
   obtain ⟨hcz5_0, hcz5_1, hcz5_2, hfz5_0, hfz5_1, hfz5_2⟩ := blk3 BK170.out
   go_wp2
   go_meet
   case rel => exact ⟨_, (true), (by first | rfl | (simp; done) | (simp [*]; done)), H', ⟨by first | omega | exact Nat.le_refl _⟩, ⟨by exact obk BK170.out⟩, ⟨by exact bok HB.out⟩⟩
  ·
   rw [if_neg c4] at H
   have c4b0 : ((l0_1.length : Int) == 0) = false := beq_eq_false_iff_ne.mpr c4
   have c4b1 : ((l0_1.length : Int) != 0) = true := bne_iff_ne.mpr c4
   have c4b2 : ¬ (l0_1 = []) := fun h_ => c4 (by rw [h_]; rfl)
   (first | rw [c4b0] | (simp only [i64_w, i32_w]; rw [c4b0]) | skip)
   by_cases c6 : (l0_1.length : Int) > 60
   ·
    rw [if_pos c6] at H
    have c6b0 : decide (60 < (l0_1.length : Int)) = true := decide_eq_true c6
    have c6b1 : decide (60 < l0_1.length) = true := decide_eq_true (by omega)
    clear c6
    have H' := mk0 H
    clear H
    obtain ⟨hcz7_0, hcz7_1, hcz7_2, hfz7_0, hfz7_1, hfz7_2⟩ := blk3 BK170.out
    go_wp2
    go_meet
    case rel => exact ⟨_, (true), (by first | rfl | (simp; done) | (simp [*]; done)), H', ⟨by first | omega | exact Nat.le_refl _⟩, ⟨by exact obk BK170.out⟩, ⟨by exact bok HB.out⟩⟩
   ·
    rw [if_neg c6] at H
    have c6b0 : decide (60 < (l0_1.length : Int)) = false := decide_eq_false c6
    have c6b1 : decide (60 < l0_1.length) = false := decide_eq_false (by omega)
    clear c6
    have H' := mk0 H
    clear H
    obtain ⟨hcz8_0, hcz8_1, hcz8_2, hfz8_0, hfz8_1, hfz8_2⟩ := blk3 BK170.out
    go_wp2
    go_meet
    case rel => exact ⟨_, (decide ((l0_2.length : Int) > 90)), (by first | rfl | (simp; done) | (simp [*]; done)), H', ⟨by first | omega | exact Nat.le_refl _⟩, ⟨by exact obk BK170.out⟩, ⟨by exact bok HB.out⟩⟩
 case rest =>
  clear HC2
  obtain ⟨kq, x26_1, rfl, HA, HJ1, BK170, HB⟩ := hcut
  cases kq with
  | zero => exact absurd HA.out (by simp [zac.j0])
  | succ kj1 =>
   have H := HA.out
   clear HA
   simp only [zac.j0] at H
   by_cases c9 : x26_1 = true
   ·
    subst c9
    have H1 : (some (0, 15)) = some (r1, r2) := by rw [if_pos rfl] at H; exact H
    clear H
    have H := H1
    clear H1
    simp only [Option.some.injEq, Prod.mk.injEq] at H
    obtain ⟨rfl, rfl⟩ := H
    go_wp2
    go_ret2
    exact ⟨by first | rfl | (simp [*, zbe, zbf] <;> rfl) | (simp [zbe, zbf]; exact isEmpty_ne _), by exact bok HB.out⟩
   ·
    replace c9 := Bool.eq_false_iff.mpr c9
    subst c9
    have H1 : (zac.l0 kj1 1 a0_0 l0_1 l0_2) = some (r1, r2) := by rw [if_neg (show ¬ (false = true) by decide)] at H; exact H
    clear H
    have H := H1
    clear H1
    have H' := mk0 H
    clear H
    go_wp2
    go_loopg [4] kj1 (fun kq v4 w' => ∃ (x4_2 : Int), v4 = .int .i64 x4_2 ∧ Aside0 (zac.l0 kq x4_2 a0_0 l0_1 l0_2 = some (r1, r2)) ∧ Aside0 (kq ≤ kj1) ∧ Aside0 (w'.heap[gb170]? = some (.cells #[.string a0_0, (.slice A0_1 l0_1.length c0_1), (.slice A0_2 l0_2.length c0_2)] 25 (0, 0))) ∧ Aside0 (Below w.heap.size w w'))
    case atStart => exact ⟨(1), (by first | rfl | (simp; done) | (simp [*]; done)), H', ⟨Nat.le_refl _⟩, ⟨by exact obk BK170.out⟩, ⟨by exact bok HB.out⟩⟩
    case round =>
     clear H'
     obtain ⟨x4_2, rfl, HA, HK2, BK170, HB⟩ := hrel
     cases gk with
     | zero => exact absurd HA.out (by simp [zac.l0])
     | succ k2 =>
      have H := HA.out
      clear HA
      simp only [zac.l0] at H
      by_cases c10 : x4_2 ≤ (l0_1.length : Int)
      ·
       rw [if_pos c10] at H
       have c10b0 : decide (x4_2 ≤ (l0_1.length : Int)) = true := decide_eq_true c10
       clear c10
       replace H := Option.bind_eq_some_iff.mp H
       obtain ⟨t171, A110, H⟩ := H
       replace H : (if t171 = 0 then (zac.l0 k2 (wrap64 (x4_2 + 1)) a0_0 l0_1 l0_2) else (some (x4_2, t171))) = some (r1, r2) := H
       have A11 := mk0 A110
       clear A110
       by_cases c12 : t171 = 0
       ·
        rw [if_pos c12] at H
        have c12b0 : (t171 == 0) = true := beq_iff_eq.mpr c12
        have c12b1 : (t171 != 0) = false := bne_eq_false_iff_eq.mpr c12
        clear c12
        have H' := mk0 H
        clear H
        obtain ⟨hcz13_0, hcz13_1, hcz13_2, hfz13_0, hfz13_1, hfz13_2⟩ := blk3 BK170.out
        go_wp2_with (first | ((with_reducible refine gate_callee (f := 28) rfl ?_); refine goesL_ (some 36) rfl rfl Tryz.func28 (by kernel_rfl) rfl #[.agg #[.string a0_0, .slice A0_1 l0_1.length c0_1, .slice A0_2 l0_2.length c0_2], .int .i64 x4_2] rfl (by (try simp only [List.map_toArray, List.map_cons, List.map_nil]); first | done | rfl | (simp only [List.length_drop, List.length_take]; rfl)) ?_; (with_reducible refine (zao.calls k2 a0_0 _ _ l0_1 _ _ l0_2 x4_2 t171 _ ?side1 ?side2 ?side3 ?side4 A11.out).mono ?_); (case side1 => repeat (first | exact (Kd.C_below HR0_1.out HB.out) | (with_reducible refine Kd.C_alloc ?_ _) | (with_reducible refine Kd.C_drewN ?_ _) | (with_reducible refine Kd.C_drew ?_))); (case side2 => exact HC0_1.out); (case side3 => repeat (first | exact (Kd.C_below HR0_2.out HB.out) | (with_reducible refine Kd.C_alloc ?_ _) | (with_reducible refine Kd.C_drewN ?_ _) | (with_reducible refine Kd.C_drew ?_))); (case side4 => exact HC0_2.out); rintro e w14 ⟨rfl, hb⟩; refine ⟨_, rfl, ?_⟩; have n0_ := mk0 (blk_below (obk BK170.out) hb); have n1_ := mk0 (bst HB.out hb); clear BK170; clear HB; have BK170 := n0_; have HB := n1_; clear n0_ n1_; (try clear hb)))
        go_roundg k2
        case measure => have := HJ1.out; have := HK2.out; omega
        case rel => exact ⟨(wrap64 (x4_2 + 1)), (by first | rfl | (simp; done) | (simp [*]; done)), H', ⟨by have := HJ1.out; have := HK2.out; omega⟩, ⟨by exact obk BK170.out⟩, ⟨by exact bok HB.out⟩⟩
       ·
        rw [if_neg c12] at H
        have c12b0 : (t171 == 0) = false := beq_eq_false_iff_ne.mpr c12
        have c12b1 : (t171 != 0) = true := bne_iff_ne.mpr c12
        simp only [Option.some.injEq, Prod.mk.injEq] at H
        obtain ⟨rfl, rfl⟩ := H
        obtain ⟨hcz15_0, hcz15_1, hcz15_2, hfz15_0, hfz15_1, hfz15_2⟩ := blk3 BK170.out
        go_wp2_with (first | ((with_reducible refine gate_callee (f := 28) rfl ?_); refine goesL_ (some 36) rfl rfl Tryz.func28 (by kernel_rfl) rfl #[.agg #[.string a0_0, .slice A0_1 l0_1.length c0_1, .slice A0_2 l0_2.length c0_2], .int .i64 x4_2] rfl (by (try simp only [List.map_toArray, List.map_cons, List.map_nil]); first | done | rfl | (simp only [List.length_drop, List.length_take]; rfl)) ?_; (with_reducible refine (zao.calls k2 a0_0 _ _ l0_1 _ _ l0_2 x4_2 t171 _ ?side1 ?side2 ?side3 ?side4 A11.out).mono ?_); (case side1 => repeat (first | exact (Kd.C_below HR0_1.out HB.out) | (with_reducible refine Kd.C_alloc ?_ _) | (with_reducible refine Kd.C_drewN ?_ _) | (with_reducible refine Kd.C_drew ?_))); (case side2 => exact HC0_1.out); (case side3 => repeat (first | exact (Kd.C_below HR0_2.out HB.out) | (with_reducible refine Kd.C_alloc ?_ _) | (with_reducible refine Kd.C_drewN ?_ _) | (with_reducible refine Kd.C_drew ?_))); (case side4 => exact HC0_2.out); rintro e w16 ⟨rfl, hb⟩; refine ⟨_, rfl, ?_⟩; have n0_ := mk0 (blk_below (obk BK170.out) hb); have n1_ := mk0 (bst HB.out hb); clear BK170; clear HB; have BK170 := n0_; have HB := n1_; clear n0_ n1_; (try clear hb)))
        go_ret2
        exact ⟨by first | rfl | (simp [*, zbe, zbf] <;> rfl) | (simp [zbe, zbf]; exact isEmpty_ne _), by exact bok HB.out⟩
      ·
       rw [if_neg c10] at H
       have c10b0 : decide (x4_2 ≤ (l0_1.length : Int)) = false := decide_eq_false c10
       clear c10
       have H' := mk0 H
       clear H
       obtain ⟨hcz17_0, hcz17_1, hcz17_2, hfz17_0, hfz17_1, hfz17_2⟩ := blk3 BK170.out
       go_wp2
       go_loopg [6] k2 (fun kq v6 w' => ∃ (x6_3 : Int), v6 = .int .i64 x6_3 ∧ Aside0 (zac.l1 kq x6_3 a0_0 l0_1 l0_2 = some (r1, r2)) ∧ Aside0 (kq ≤ k2) ∧ Aside0 (w'.heap[gb170]? = some (.cells #[.string a0_0, (.slice A0_1 l0_1.length c0_1), (.slice A0_2 l0_2.length c0_2)] 25 (0, 0))) ∧ Aside0 (Below w.heap.size w w'))
       case atStart => exact ⟨(1), (by first | rfl | (simp; done) | (simp [*]; done)), H', ⟨Nat.le_refl _⟩, ⟨by exact obk BK170.out⟩, ⟨by exact bok HB.out⟩⟩
       case round =>
        clear H'
        obtain ⟨x6_3, rfl, HA, HK3, BK170, HB⟩ := hrel
        cases gk with
        | zero => exact absurd HA.out (by simp [zac.l1])
        | succ k3 =>
         have H := HA.out
         clear HA
         simp only [zac.l1] at H
         by_cases c18 : x6_3 ≤ (l0_2.length : Int)
         ·
          rw [if_pos c18] at H
          have c18b0 : decide (x6_3 ≤ (l0_2.length : Int)) = true := decide_eq_true c18
          clear c18
          replace H := Option.bind_eq_some_iff.mp H
          obtain ⟨t172, A190, H⟩ := H
          replace H : (if t172 = 0 then (zac.l1 k3 (wrap64 (x6_3 + 1)) a0_0 l0_1 l0_2) else (some (x6_3, t172))) = some (r1, r2) := H
          have A19 := mk0 A190
          clear A190
          by_cases c20 : t172 = 0
          ·
           rw [if_pos c20] at H
           have c20b0 : (t172 == 0) = true := beq_iff_eq.mpr c20
           have c20b1 : (t172 != 0) = false := bne_eq_false_iff_eq.mpr c20
           clear c20
           have H' := mk0 H
           clear H
           obtain ⟨hcz21_0, hcz21_1, hcz21_2, hfz21_0, hfz21_1, hfz21_2⟩ := blk3 BK170.out
           go_wp2_with (first | ((with_reducible refine gate_callee (f := 29) rfl ?_); refine goesL_ (some 50) rfl rfl Tryz.func29 (by kernel_rfl) rfl #[.agg #[.string a0_0, .slice A0_1 l0_1.length c0_1, .slice A0_2 l0_2.length c0_2], .int .i64 x6_3] rfl (by (try simp only [List.map_toArray, List.map_cons, List.map_nil]); first | done | rfl | (simp only [List.length_drop, List.length_take]; rfl)) ?_; (with_reducible refine (zap.calls k3 a0_0 _ _ l0_1 _ _ l0_2 x6_3 t172 _ ?side1 ?side2 ?side3 ?side4 A19.out).mono ?_); (case side1 => repeat (first | exact (Kd.C_below HR0_1.out HB.out) | (with_reducible refine Kd.C_alloc ?_ _) | (with_reducible refine Kd.C_drewN ?_ _) | (with_reducible refine Kd.C_drew ?_))); (case side2 => exact HC0_1.out); (case side3 => repeat (first | exact (Kd.C_below HR0_2.out HB.out) | (with_reducible refine Kd.C_alloc ?_ _) | (with_reducible refine Kd.C_drewN ?_ _) | (with_reducible refine Kd.C_drew ?_))); (case side4 => exact HC0_2.out); rintro e w22 ⟨rfl, hb⟩; refine ⟨_, rfl, ?_⟩; have n0_ := mk0 (blk_below (obk BK170.out) hb); have n1_ := mk0 (bst HB.out hb); clear BK170; clear HB; have BK170 := n0_; have HB := n1_; clear n0_ n1_; (try clear hb)))
           go_roundg k3
           case measure => have := HJ1.out; have := HK2.out; have := HK3.out; omega
           case rel => exact ⟨(wrap64 (x6_3 + 1)), (by first | rfl | (simp; done) | (simp [*]; done)), H', ⟨by have := HJ1.out; have := HK2.out; have := HK3.out; omega⟩, ⟨by exact obk BK170.out⟩, ⟨by exact bok HB.out⟩⟩
          ·
           rw [if_neg c20] at H
           have c20b0 : (t172 == 0) = false := beq_eq_false_iff_ne.mpr c20
           have c20b1 : (t172 != 0) = true := bne_iff_ne.mpr c20
           simp only [Option.some.injEq, Prod.mk.injEq] at H
           obtain ⟨rfl, rfl⟩ := H
           obtain ⟨hcz23_0, hcz23_1, hcz23_2, hfz23_0, hfz23_1, hfz23_2⟩ := blk3 BK170.out
           go_wp2_with (first | ((with_reducible refine gate_callee (f := 29) rfl ?_); refine goesL_ (some 50) rfl rfl Tryz.func29 (by kernel_rfl) rfl #[.agg #[.string a0_0, .slice A0_1 l0_1.length c0_1, .slice A0_2 l0_2.length c0_2], .int .i64 x6_3] rfl (by (try simp only [List.map_toArray, List.map_cons, List.map_nil]); first | done | rfl | (simp only [List.length_drop, List.length_take]; rfl)) ?_; (with_reducible refine (zap.calls k3 a0_0 _ _ l0_1 _ _ l0_2 x6_3 t172 _ ?side1 ?side2 ?side3 ?side4 A19.out).mono ?_); (case side1 => repeat (first | exact (Kd.C_below HR0_1.out HB.out) | (with_reducible refine Kd.C_alloc ?_ _) | (with_reducible refine Kd.C_drewN ?_ _) | (with_reducible refine Kd.C_drew ?_))); (case side2 => exact HC0_1.out); (case side3 => repeat (first | exact (Kd.C_below HR0_2.out HB.out) | (with_reducible refine Kd.C_alloc ?_ _) | (with_reducible refine Kd.C_drewN ?_ _) | (with_reducible refine Kd.C_drew ?_))); (case side4 => exact HC0_2.out); rintro e w24 ⟨rfl, hb⟩; refine ⟨_, rfl, ?_⟩; have n0_ := mk0 (blk_below (obk BK170.out) hb); have n1_ := mk0 (bst HB.out hb); clear BK170; clear HB; have BK170 := n0_; have HB := n1_; clear n0_ n1_; (try clear hb)))
           go_ret2
           exact ⟨by first | rfl | (simp [*, zbe, zbf] <;> rfl) | (simp [zbe, zbf]; exact isEmpty_ne _), by exact bok HB.out⟩
         ·
          rw [if_neg c18] at H
          have c18b0 : decide (x6_3 ≤ (l0_2.length : Int)) = false := decide_eq_false c18
          clear c18
          have H' := mk0 H
          clear H
          obtain ⟨hcz25_0, hcz25_1, hcz25_2, hfz25_0, hfz25_1, hfz25_2⟩ := blk3 BK170.out
          go_wp2
          go_loopg [8] k3 (fun kq v8 w' => ∃ (x8_4 : Int), v8 = .int .i64 x8_4 ∧ Aside0 (zac.l2 kq x8_4 a0_0 l0_1 l0_2 = some (r1, r2)) ∧ Aside0 (kq ≤ k3) ∧ Aside0 (w'.heap[gb170]? = some (.cells #[.string a0_0, (.slice A0_1 l0_1.length c0_1), (.slice A0_2 l0_2.length c0_2)] 25 (0, 0))) ∧ Aside0 (Below w.heap.size w w'))
          case atStart => exact ⟨(1), (by first | rfl | (simp; done) | (simp [*]; done)), H', ⟨Nat.le_refl _⟩, ⟨by exact obk BK170.out⟩, ⟨by exact bok HB.out⟩⟩
          case round =>
           clear H'
           obtain ⟨x8_4, rfl, HA, HK4, BK170, HB⟩ := hrel
           cases gk with
           | zero => exact absurd HA.out (by simp [zac.l2])
           | succ k4 =>
            have H := HA.out
            clear HA
            simp only [zac.l2] at H
            by_cases c26 : x8_4 ≤ (l0_1.length : Int)
            ·
             rw [if_pos c26] at H
             have c26b0 : decide (x8_4 ≤ (l0_1.length : Int)) = true := decide_eq_true c26
             clear c26
             replace H := Option.bind_eq_some_iff.mp H
             obtain ⟨t173, A270, H⟩ := H
             replace H : (if t173 = true then (zac.l2 k4 (wrap64 (x8_4 + 1)) a0_0 l0_1 l0_2) else (some (x8_4, 19))) = some (r1, r2) := H
             have A27 := mk0 A270
             clear A270
             by_cases c28 : t173 = true
             ·
              subst c28
              have H1 : (zac.l2 k4 (wrap64 (x8_4 + 1)) a0_0 l0_1 l0_2) = some (r1, r2) := by rw [if_pos rfl] at H; exact H
              clear H
              have H := H1
              clear H1
              have H' := mk0 H
              clear H
              obtain ⟨hcz29_0, hcz29_1, hcz29_2, hfz29_0, hfz29_1, hfz29_2⟩ := blk3 BK170.out
              go_wp2_with (first | ((with_reducible refine gate_callee (f := 30) rfl ?_); refine goesL_ (some 64) rfl rfl Tryz.func30 (by kernel_rfl) rfl #[.agg #[.string a0_0, .slice A0_1 l0_1.length c0_1, .slice A0_2 l0_2.length c0_2], .int .i64 x8_4] rfl (by (try simp only [List.map_toArray, List.map_cons, List.map_nil]); first | done | rfl | (simp only [List.length_drop, List.length_take]; rfl)) ?_; (with_reducible refine (zah.calls k4 a0_0 _ _ l0_1 _ _ l0_2 x8_4 true _ ?side1 ?side2 ?side3 ?side4 A27.out).mono ?_); (case side1 => repeat (first | exact (Kd.C_below HR0_1.out HB.out) | (with_reducible refine Kd.C_alloc ?_ _) | (with_reducible refine Kd.C_drewN ?_ _) | (with_reducible refine Kd.C_drew ?_))); (case side2 => exact HC0_1.out); (case side3 => repeat (first | exact (Kd.C_below HR0_2.out HB.out) | (with_reducible refine Kd.C_alloc ?_ _) | (with_reducible refine Kd.C_drewN ?_ _) | (with_reducible refine Kd.C_drew ?_))); (case side4 => exact HC0_2.out); rintro e w30 ⟨rfl, hb⟩; refine ⟨_, rfl, ?_⟩; have n0_ := mk0 (blk_below (obk BK170.out) hb); have n1_ := mk0 (bst HB.out hb); clear BK170; clear HB; have BK170 := n0_; have HB := n1_; clear n0_ n1_; (try clear hb)))
              go_roundg k4
              case measure => have := HJ1.out; have := HK2.out; have := HK3.out; have := HK4.out; omega
              case rel => exact ⟨(wrap64 (x8_4 + 1)), (by first | rfl | (simp; done) | (simp [*]; done)), H', ⟨by have := HJ1.out; have := HK2.out; have := HK3.out; have := HK4.out; omega⟩, ⟨by exact obk BK170.out⟩, ⟨by exact bok HB.out⟩⟩
             ·
              replace c28 := Bool.eq_false_iff.mpr c28
              subst c28
              have H1 : (some (x8_4, 19)) = some (r1, r2) := by rw [if_neg (show ¬ (false = true) by decide)] at H; exact H
              clear H
              have H := H1
              clear H1
              simp only [Option.some.injEq, Prod.mk.injEq] at H
              obtain ⟨rfl, rfl⟩ := H
              obtain ⟨hcz31_0, hcz31_1, hcz31_2, hfz31_0, hfz31_1, hfz31_2⟩ := blk3 BK170.out
              go_wp2_with (first | ((with_reducible refine gate_callee (f := 30) rfl ?_); refine goesL_ (some 64) rfl rfl Tryz.func30 (by kernel_rfl) rfl #[.agg #[.string a0_0, .slice A0_1 l0_1.length c0_1, .slice A0_2 l0_2.length c0_2], .int .i64 x8_4] rfl (by (try simp only [List.map_toArray, List.map_cons, List.map_nil]); first | done | rfl | (simp only [List.length_drop, List.length_take]; rfl)) ?_; (with_reducible refine (zah.calls k4 a0_0 _ _ l0_1 _ _ l0_2 x8_4 false _ ?side1 ?side2 ?side3 ?side4 A27.out).mono ?_); (case side1 => repeat (first | exact (Kd.C_below HR0_1.out HB.out) | (with_reducible refine Kd.C_alloc ?_ _) | (with_reducible refine Kd.C_drewN ?_ _) | (with_reducible refine Kd.C_drew ?_))); (case side2 => exact HC0_1.out); (case side3 => repeat (first | exact (Kd.C_below HR0_2.out HB.out) | (with_reducible refine Kd.C_alloc ?_ _) | (with_reducible refine Kd.C_drewN ?_ _) | (with_reducible refine Kd.C_drew ?_))); (case side4 => exact HC0_2.out); rintro e w32 ⟨rfl, hb⟩; refine ⟨_, rfl, ?_⟩; have n0_ := mk0 (blk_below (obk BK170.out) hb); have n1_ := mk0 (bst HB.out hb); clear BK170; clear HB; have BK170 := n0_; have HB := n1_; clear n0_ n1_; (try clear hb)))
              go_ret2
              exact ⟨by first | rfl | (simp [*, zbe, zbf] <;> rfl) | (simp [zbe, zbf]; exact isEmpty_ne _), by exact bok HB.out⟩
            ·
             rw [if_neg c26] at H
             have c26b0 : decide (x8_4 ≤ (l0_1.length : Int)) = false := decide_eq_false c26
             clear c26
             have H' := mk0 H
             clear H
             obtain ⟨hcz33_0, hcz33_1, hcz33_2, hfz33_0, hfz33_1, hfz33_2⟩ := blk3 BK170.out
             go_wp2
             go_loopg [9] k4 (fun kq v9 w' => ∃ (x9_5 : Int), v9 = .int .i64 x9_5 ∧ Aside0 (zac.l3 kq x9_5 a0_0 l0_1 l0_2 = some (r1, r2)) ∧ Aside0 (kq ≤ k4) ∧ Aside0 (w'.heap[gb170]? = some (.cells #[.string a0_0, (.slice A0_1 l0_1.length c0_1), (.slice A0_2 l0_2.length c0_2)] 25 (0, 0))) ∧ Aside0 (Below w.heap.size w w'))
             case atStart => exact ⟨(0), (by first | rfl | (simp; done) | (simp [*]; done)), H', ⟨Nat.le_refl _⟩, ⟨by exact obk BK170.out⟩, ⟨by exact bok HB.out⟩⟩
             case round =>
              clear H'
              obtain ⟨x9_5, rfl, HA, HK5, BK170, HB⟩ := hrel
              cases gk with
              | zero => exact absurd HA.out (by simp [zac.l3])
              | succ k5 =>
               have H := HA.out
               clear HA
               simp only [zac.l3] at H
               by_cases c34 : x9_5 ≤ (l0_1.length : Int)
               ·
                rw [if_pos c34] at H
                have c34b0 : decide (x9_5 ≤ (l0_1.length : Int)) = true := decide_eq_true c34
                clear c34
                by_cases c35 : x9_5 = 0
                ·
                 rw [if_pos c35] at H
                 have c35b0 : (x9_5 == 0) = true := beq_iff_eq.mpr c35
                 have c35b1 : (x9_5 != 0) = false := bne_eq_false_iff_eq.mpr c35
                 clear c35
                 replace H := Option.bind_eq_some_iff.mp H
                 obtain ⟨t174, A360, H⟩ := H
                 replace H : (if t174 = true then (zac.l3 k5 (wrap64 (x9_5 + 1)) a0_0 l0_1 l0_2) else (some (x9_5, 19))) = some (r1, r2) := H
                 have A36 := mk0 A360
                 clear A360
                 by_cases c37 : t174 = true
                 ·
                  subst c37
                  have H1 : (zac.l3 k5 (wrap64 (x9_5 + 1)) a0_0 l0_1 l0_2) = some (r1, r2) := by rw [if_pos rfl] at H; exact H
                  clear H
                  have H := H1
                  clear H1
                  have H' := mk0 H
                  clear H
                  obtain ⟨hcz38_0, hcz38_1, hcz38_2, hfz38_0, hfz38_1, hfz38_2⟩ := blk3 BK170.out
                  go_wp2_with (first | (go_at_call 32; (with_reducible refine (zaj.calls k5 a0_0 _ _ l0_1 _ _ l0_2 x9_5 true _ ?side1 ?side2 ?side3 ?side4 A36.out).mono ?_); (case side1 => repeat (first | exact (Kd.C_below HR0_1.out HB.out) | (with_reducible refine Kd.C_alloc ?_ _) | (with_reducible refine Kd.C_drewN ?_ _) | (with_reducible refine Kd.C_drew ?_))); (case side2 => exact HC0_1.out); (case side3 => repeat (first | exact (Kd.C_below HR0_2.out HB.out) | (with_reducible refine Kd.C_alloc ?_ _) | (with_reducible refine Kd.C_drewN ?_ _) | (with_reducible refine Kd.C_drew ?_))); (case side4 => exact HC0_2.out); rintro e w39 ⟨rfl, hb⟩; have n0_ := mk0 (blk_below (obk BK170.out) hb); have n1_ := mk0 (bst HB.out hb); clear BK170; clear HB; have BK170 := n0_; have HB := n1_; clear n0_ n1_; (try clear hb)))
                  go_roundg k5
                  case measure => have := HJ1.out; have := HK2.out; have := HK3.out; have := HK4.out; have := HK5.out; omega
                  case rel => exact ⟨(wrap64 (x9_5 + 1)), (by first | rfl | (simp; done) | (simp [*]; done)), H', ⟨by have := HJ1.out; have := HK2.out; have := HK3.out; have := HK4.out; have := HK5.out; omega⟩, ⟨by exact obk BK170.out⟩, ⟨by exact bok HB.out⟩⟩
                 ·
                  replace c37 := Bool.eq_false_iff.mpr c37
                  subst c37
                  have H1 : (some (x9_5, 19)) = some (r1, r2) := by rw [if_neg (show ¬ (false = true) by decide)] at H; exact H
                  clear H
                  have H := H1
                  clear H1
                  simp only [Option.some.injEq, Prod.mk.injEq] at H
                  obtain ⟨rfl, rfl⟩ := H
                  obtain ⟨hcz40_0, hcz40_1, hcz40_2, hfz40_0, hfz40_1, hfz40_2⟩ := blk3 BK170.out
                  go_wp2_with (first | (go_at_call 32; (with_reducible refine (zaj.calls k5 a0_0 _ _ l0_1 _ _ l0_2 x9_5 false _ ?side1 ?side2 ?side3 ?side4 A36.out).mono ?_); (case side1 => repeat (first | exact (Kd.C_below HR0_1.out HB.out) | (with_reducible refine Kd.C_alloc ?_ _) | (with_reducible refine Kd.C_drewN ?_ _) | (with_reducible refine Kd.C_drew ?_))); (case side2 => exact HC0_1.out); (case side3 => repeat (first | exact (Kd.C_below HR0_2.out HB.out) | (with_reducible refine Kd.C_alloc ?_ _) | (with_reducible refine Kd.C_drewN ?_ _) | (with_reducible refine Kd.C_drew ?_))); (case side4 => exact HC0_2.out); rintro e w41 ⟨rfl, hb⟩; have n0_ := mk0 (blk_below (obk BK170.out) hb); have n1_ := mk0 (bst HB.out hb); clear BK170; clear HB; have BK170 := n0_; have HB := n1_; clear n0_ n1_; (try clear hb)))
                  go_ret2
                  exact ⟨by first | rfl | (simp [*, zbe, zbf] <;> rfl) | (simp [zbe, zbf]; exact isEmpty_ne _), by exact bok HB.out⟩
                ·
                 rw [if_neg c35] at H
                 have c35b0 : (x9_5 == 0) = false := beq_eq_false_iff_ne.mpr c35
                 have c35b1 : (x9_5 != 0) = true := bne_iff_ne.mpr c35
                 replace H := Option.bind_eq_some_iff.mp H
                 obtain ⟨t175, A420, H⟩ := H
                 replace H : (if t175 = true then ((zaj.f k5 a0_0 l0_1 l0_2 x9_5).bind fun t176 => (if t176 = true then (zac.l3 k5 (wrap64 (x9_5 + 1)) a0_0 l0_1 l0_2) else (some (x9_5, 19)))) else (zac.l3 k5 (wrap64 (x9_5 + 1)) a0_0 l0_1 l0_2)) = some (r1, r2) := H
                 have A42 := mk0 A420
                 clear A420
                 by_cases c43 : t175 = true
                 ·
                  subst c43
                  have H1 : ((zaj.f k5 a0_0 l0_1 l0_2 x9_5).bind fun t176 => (if t176 = true then (zac.l3 k5 (wrap64 (x9_5 + 1)) a0_0 l0_1 l0_2) else (some (x9_5, 19)))) = some (r1, r2) := by rw [if_pos rfl] at H; exact H
                  clear H
                  have H := H1
                  clear H1
                  replace H := Option.bind_eq_some_iff.mp H
                  obtain ⟨t176, A440, H⟩ := H
                  replace H : (if t176 = true then (zac.l3 k5 (wrap64 (x9_5 + 1)) a0_0 l0_1 l0_2) else (some (x9_5, 19))) = some (r1, r2) := H
                  have A44 := mk0 A440
                  clear A440
                  by_cases c45 : t176 = true
                  ·
                   subst c45
                   have H1 : (zac.l3 k5 (wrap64 (x9_5 + 1)) a0_0 l0_1 l0_2) = some (r1, r2) := by rw [if_pos rfl] at H; exact H
                   clear H
                   have H := H1
                   clear H1
                   have H' := mk0 H
                   clear H
                   obtain ⟨hcz46_0, hcz46_1, hcz46_2, hfz46_0, hfz46_1, hfz46_2⟩ := blk3 BK170.out
                   go_wp2_with (first | (go_at_call 31; (with_reducible refine (zaq.calls a0_0 _ _ l0_1 _ _ l0_2 x9_5 true _ ?side1 ?side2 ?side3 ?side4 A42.out).mono ?_); (case side1 => repeat (first | exact (Kd.C_below HR0_1.out HB.out) | (with_reducible refine Kd.C_alloc ?_ _) | (with_reducible refine Kd.C_drewN ?_ _) | (with_reducible refine Kd.C_drew ?_))); (case side2 => exact HC0_1.out); (case side3 => repeat (first | exact (Kd.C_below HR0_2.out HB.out) | (with_reducible refine Kd.C_alloc ?_ _) | (with_reducible refine Kd.C_drewN ?_ _) | (with_reducible refine Kd.C_drew ?_))); (case side4 => exact HC0_2.out); rintro e w47 ⟨rfl, hb⟩; have n0_ := mk0 (blk_below (obk BK170.out) hb); have n1_ := mk0 (bst HB.out hb); clear BK170; clear HB; have BK170 := n0_; have HB := n1_; clear n0_ n1_; (try clear hb); obtain ⟨hcz48_0, hcz48_1, hcz48_2, hfz48_0, hfz48_1, hfz48_2⟩ := blk3 BK170.out) | (go_at_call 32; (with_reducible refine (zaj.calls k5 a0_0 _ _ l0_1 _ _ l0_2 x9_5 true _ ?side1 ?side2 ?side3 ?side4 A44.out).mono ?_); (case side1 => repeat (first | exact (Kd.C_below HR0_1.out HB.out) | (with_reducible refine Kd.C_alloc ?_ _) | (with_reducible refine Kd.C_drewN ?_ _) | (with_reducible refine Kd.C_drew ?_))); (case side2 => exact HC0_1.out); (case side3 => repeat (first | exact (Kd.C_below HR0_2.out HB.out) | (with_reducible refine Kd.C_alloc ?_ _) | (with_reducible refine Kd.C_drewN ?_ _) | (with_reducible refine Kd.C_drew ?_))); (case side4 => exact HC0_2.out); rintro e w49 ⟨rfl, hb⟩; have n0_ := mk0 (blk_below (obk BK170.out) hb); have n1_ := mk0 (bst HB.out hb); clear BK170; clear HB; have BK170 := n0_; have HB := n1_; clear n0_ n1_; (try clear hb)))
                   go_roundg k5
                   case measure => have := HJ1.out; have := HK2.out; have := HK3.out; have := HK4.out; have := HK5.out; omega
                   case rel => exact ⟨(wrap64 (x9_5 + 1)), (by first | rfl | (simp; done) | (simp [*]; done)), H', ⟨by have := HJ1.out; have := HK2.out; have := HK3.out; have := HK4.out; have := HK5.out; omega⟩, ⟨by exact obk BK170.out⟩, ⟨by exact bok HB.out⟩⟩
                  ·
                   replace c45 := Bool.eq_false_iff.mpr c45
                   subst c45
                   have H1 : (some (x9_5, 19)) = some (r1, r2) := by rw [if_neg (show ¬ (false = true) by decide)] at H; exact H
                   clear H
                   have H := H1
                   clear H1
                   simp only [Option.some.injEq, Prod.mk.injEq] at H
                   obtain ⟨rfl, rfl⟩ := H
                   obtain ⟨hcz50_0, hcz50_1, hcz50_2, hfz50_0, hfz50_1, hfz50_2⟩ := blk3 BK170.out
                   go_wp2_with (first | (go_at_call 31; (with_reducible refine (zaq.calls a0_0 _ _ l0_1 _ _ l0_2 x9_5 true _ ?side1 ?side2 ?side3 ?side4 A42.out).mono ?_); (case side1 => repeat (first | exact (Kd.C_below HR0_1.out HB.out) | (with_reducible refine Kd.C_alloc ?_ _) | (with_reducible refine Kd.C_drewN ?_ _) | (with_reducible refine Kd.C_drew ?_))); (case side2 => exact HC0_1.out); (case side3 => repeat (first | exact (Kd.C_below HR0_2.out HB.out) | (with_reducible refine Kd.C_alloc ?_ _) | (with_reducible refine Kd.C_drewN ?_ _) | (with_reducible refine Kd.C_drew ?_))); (case side4 => exact HC0_2.out); rintro e w51 ⟨rfl, hb⟩; have n0_ := mk0 (blk_below (obk BK170.out) hb); have n1_ := mk0 (bst HB.out hb); clear BK170; clear HB; have BK170 := n0_; have HB := n1_; clear n0_ n1_; (try clear hb); obtain ⟨hcz52_0, hcz52_1, hcz52_2, hfz52_0, hfz52_1, hfz52_2⟩ := blk3 BK170.out) | (go_at_call 32; (with_reducible refine (zaj.calls k5 a0_0 _ _ l0_1 _ _ l0_2 x9_5 false _ ?side1 ?side2 ?side3 ?side4 A44.out).mono ?_); (case side1 => repeat (first | exact (Kd.C_below HR0_1.out HB.out) | (with_reducible refine Kd.C_alloc ?_ _) | (with_reducible refine Kd.C_drewN ?_ _) | (with_reducible refine Kd.C_drew ?_))); (case side2 => exact HC0_1.out); (case side3 => repeat (first | exact (Kd.C_below HR0_2.out HB.out) | (with_reducible refine Kd.C_alloc ?_ _) | (with_reducible refine Kd.C_drewN ?_ _) | (with_reducible refine Kd.C_drew ?_))); (case side4 => exact HC0_2.out); rintro e w53 ⟨rfl, hb⟩; have n0_ := mk0 (blk_below (obk BK170.out) hb); have n1_ := mk0 (bst HB.out hb); clear BK170; clear HB; have BK170 := n0_; have HB := n1_; clear n0_ n1_; (try clear hb)))
                   go_ret2
                   exact ⟨by first | rfl | (simp [*, zbe, zbf] <;> rfl) | (simp [zbe, zbf]; exact isEmpty_ne _), by exact bok HB.out⟩
                 ·
                  replace c43 := Bool.eq_false_iff.mpr c43
                  subst c43
                  have H1 : (zac.l3 k5 (wrap64 (x9_5 + 1)) a0_0 l0_1 l0_2) = some (r1, r2) := by rw [if_neg (show ¬ (false = true) by decide)] at H; exact H
                  clear H
                  have H := H1
                  clear H1
                  have H' := mk0 H
                  clear H
                  obtain ⟨hcz54_0, hcz54_1, hcz54_2, hfz54_0, hfz54_1, hfz54_2⟩ := blk3 BK170.out
                  go_wp2_with (first | (go_at_call 31; (with_reducible refine (zaq.calls a0_0 _ _ l0_1 _ _ l0_2 x9_5 false _ ?side1 ?side2 ?side3 ?side4 A42.out).mono ?_); (case side1 => repeat (first | exact (Kd.C_below HR0_1.out HB.out) | (with_reducible refine Kd.C_alloc ?_ _) | (with_reducible refine Kd.C_drewN ?_ _) | (with_reducible refine Kd.C_drew ?_))); (case side2 => exact HC0_1.out); (case side3 => repeat (first | exact (Kd.C_below HR0_2.out HB.out) | (with_reducible refine Kd.C_alloc ?_ _) | (with_reducible refine Kd.C_drewN ?_ _) | (with_reducible refine Kd.C_drew ?_))); (case side4 => exact HC0_2.out); rintro e w55 ⟨rfl, hb⟩; have n0_ := mk0 (blk_below (obk BK170.out) hb); have n1_ := mk0 (bst HB.out hb); clear BK170; clear HB; have BK170 := n0_; have HB := n1_; clear n0_ n1_; (try clear hb)))
                  go_roundg k5
                  case measure => have := HJ1.out; have := HK2.out; have := HK3.out; have := HK4.out; have := HK5.out; omega
                  case rel => exact ⟨(wrap64 (x9_5 + 1)), (by first | rfl | (simp; done) | (simp [*]; done)), H', ⟨by have := HJ1.out; have := HK2.out; have := HK3.out; have := HK4.out; have := HK5.out; omega⟩, ⟨by exact obk BK170.out⟩, ⟨by exact bok HB.out⟩⟩
               ·
                rw [if_neg c34] at H
                have c34b0 : decide (x9_5 ≤ (l0_1.length : Int)) = false := decide_eq_false c34
                clear c34
                have H' := mk0 H
                clear H
                obtain ⟨hcz56_0, hcz56_1, hcz56_2, hfz56_0, hfz56_1, hfz56_2⟩ := blk3 BK170.out
                go_wp2
                go_loopg [10] k5 (fun kq v10 w' => ∃ (x10_6 : Int), v10 = .int .i64 x10_6 ∧ Aside0 (zac.l4 kq x10_6 a0_0 l0_1 l0_2 = some (r1, r2)) ∧ Aside0 (kq ≤ k5) ∧ Aside0 (w'.heap[gb170]? = some (.cells #[.string a0_0, (.slice A0_1 l0_1.length c0_1), (.slice A0_2 l0_2.length c0_2)] 25 (0, 0))) ∧ Aside0 (Below w.heap.size w w'))
                case atStart => exact ⟨(1), (by first | rfl | (simp; done) | (simp [*]; done)), H', ⟨Nat.le_refl _⟩, ⟨by exact obk BK170.out⟩, ⟨by exact bok HB.out⟩⟩
                case round =>
                 clear H'
                 obtain ⟨x10_6, rfl, HA, HK6, BK170, HB⟩ := hrel
                 cases gk with
                 | zero => exact absurd HA.out (by simp [zac.l4])
                 | succ k6 =>
                  have H := HA.out
                  clear HA
                  simp only [zac.l4] at H
                  by_cases c57 : x10_6 ≤ (l0_1.length : Int)
                  ·
                   rw [if_pos c57] at H
                   have c57b0 : decide (x10_6 ≤ (l0_1.length : Int)) = true := decide_eq_true c57
                   clear c57
                   replace H := Option.bind_eq_some_iff.mp H
                   obtain ⟨t177, A580, H⟩ := H
                   replace H : (if t177 > 5 then (some (x10_6, 15)) else (zac.l4 k6 (wrap64 (x10_6 + 1)) a0_0 l0_1 l0_2)) = some (r1, r2) := H
                   have A58 := mk0 A580
                   clear A580
                   by_cases c59 : t177 > 5
                   ·
                    rw [if_pos c59] at H
                    have c59b0 : decide (5 < t177) = true := decide_eq_true c59
                    clear c59
                    simp only [Option.some.injEq, Prod.mk.injEq] at H
                    obtain ⟨rfl, rfl⟩ := H
                    obtain ⟨hcz60_0, hcz60_1, hcz60_2, hfz60_0, hfz60_1, hfz60_2⟩ := blk3 BK170.out
                    go_wp2_with (first | ((with_reducible refine gate_callee (f := 33) rfl ?_); refine goesL_ (some 97) rfl rfl Tryz.func33 (by kernel_rfl) rfl #[.agg #[.string a0_0, .slice A0_1 l0_1.length c0_1, .slice A0_2 l0_2.length c0_2], .int .i64 x10_6] rfl (by (try simp only [List.map_toArray, List.map_cons, List.map_nil]); first | done | rfl | (simp only [List.length_drop, List.length_take]; rfl)) ?_; (with_reducible refine (zal.calls k6 a0_0 _ _ l0_1 _ _ l0_2 x10_6 t177 _ ?side1 ?side2 ?side3 ?side4 A58.out).mono ?_); (case side1 => repeat (first | exact (Kd.C_below HR0_1.out HB.out) | (with_reducible refine Kd.C_alloc ?_ _) | (with_reducible refine Kd.C_drewN ?_ _) | (with_reducible refine Kd.C_drew ?_))); (case side2 => exact HC0_1.out); (case side3 => repeat (first | exact (Kd.C_below HR0_2.out HB.out) | (with_reducible refine Kd.C_alloc ?_ _) | (with_reducible refine Kd.C_drewN ?_ _) | (with_reducible refine Kd.C_drew ?_))); (case side4 => exact HC0_2.out); rintro e w61 ⟨rfl, hb⟩; refine ⟨_, rfl, ?_⟩; have n0_ := mk0 (blk_below (obk BK170.out) hb); have n1_ := mk0 (bst HB.out hb); clear BK170; clear HB; have BK170 := n0_; have HB := n1_; clear n0_ n1_; (try clear hb)))
                    go_ret2
                    exact ⟨by first | rfl | (simp [*, zbe, zbf] <;> rfl) | (simp [zbe, zbf]; exact isEmpty_ne _), by exact bok HB.out⟩
                   ·
                    rw [if_neg c59] at H
                    have c59b0 : decide (5 < t177) = false := decide_eq_false c59
                    clear c59
                    have H' := mk0 H
                    clear H
                    obtain ⟨hcz62_0, hcz62_1, hcz62_2, hfz62_0, hfz62_1, hfz62_2⟩ := blk3 BK170.out
                    go_wp2_with (first | ((with_reducible refine gate_callee (f := 33) rfl ?_); refine goesL_ (some 97) rfl rfl Tryz.func33 (by kernel_rfl) rfl #[.agg #[.string a0_0, .slice A0_1 l0_1.length c0_1, .slice A0_2 l0_2.length c0_2], .int .i64 x10_6] rfl (by (try simp only [List.map_toArray, List.map_cons, List.map_nil]); first | done | rfl | (simp only [List.length_drop, List.length_take]; rfl)) ?_; (with_reducible refine (zal.calls k6 a0_0 _ _ l0_1 _ _ l0_2 x10_6 t177 _ ?side1 ?side2 ?side3 ?side4 A58.out).mono ?_); (case side1 => repeat (first | exact (Kd.C_below HR0_1.out HB.out) | (with_reducible refine Kd.C_alloc ?_ _) | (with_reducible refine Kd.C_drewN ?_ _) | (with_reducible refine Kd.C_drew ?_))); (case side2 => exact HC0_1.out); (case side3 => repeat (first | exact (Kd.C_below HR0_2.out HB.out) | (with_reducible refine Kd.C_alloc ?_ _) | (with_reducible refine Kd.C_drewN ?_ _) | (with_reducible refine Kd.C_drew ?_))); (case side4 => exact HC0_2.out); rintro e w63 ⟨rfl, hb⟩; refine ⟨_, rfl, ?_⟩; have n0_ := mk0 (blk_below (obk BK170.out) hb); have n1_ := mk0 (bst HB.out hb); clear BK170; clear HB; have BK170 := n0_; have HB := n1_; clear n0_ n1_; (try clear hb)))
                    go_roundg k6
                    case measure => have := HJ1.out; have := HK2.out; have := HK3.out; have := HK4.out; have := HK5.out; have := HK6.out; omega
                    case rel => exact ⟨(wrap64 (x10_6 + 1)), (by first | rfl | (simp; done) | (simp [*]; done)), H', ⟨by have := HJ1.out; have := HK2.out; have := HK3.out; have := HK4.out; have := HK5.out; have := HK6.out; omega⟩, ⟨by exact obk BK170.out⟩, ⟨by exact bok HB.out⟩⟩
                  ·
                   rw [if_neg c57] at H
                   have c57b0 : decide (x10_6 ≤ (l0_1.length : Int)) = false := decide_eq_false c57
                   clear c57
                   simp only [Option.some.injEq, Prod.mk.injEq] at H
                   obtain ⟨rfl, rfl⟩ := H
                   obtain ⟨hcz64_0, hcz64_1, hcz64_2, hfz64_0, hfz64_1, hfz64_2⟩ := blk3 BK170.out
                   go_wp2
                   go_ret2
                   exact ⟨by first | rfl | (simp [*, zbe, zbf] <;> rfl) | (simp [zbe, zbf]; exact isEmpty_ne _), by exact bok HB.out⟩

end Go.Proofs.YtcaegaljhogbjaaGreatDoor.Y
