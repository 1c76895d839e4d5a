/- What Go functions compute, as plain Lean functions, and that the machine comes to just that: written by wip/tools/printx.py (my run of the printer, with contracts of mine beside it). -/
import Derived.Test.YtcaegaljhogbjaaGreatDoorProg
import Derived.Below
import Derived.Deep.Draws
import Derived.Deep.AppendLies
import Derived.Maps.AppendAt
import Derived.OwnWalk
import Derived.Laws.BytesArg
import Derived.Laws.MakeOwn
import Derived.Laws.OwnMore
import Derived.Deep.OwnRows
import Derived.Tactics
import Derived.Lib.ConvBytes
import Derived.Laws.Slices
import Derived.WalkKit
import Derived.KernelRfl
import Derived.RowKit3
import Derived.Deep.LoopGhost
import Derived.Deep.QuietTactic
import Derived.BigQuiet
import Derived.WideLaws
import Derived.Deep.DeepCutAuto
import Derived.Deep.CutBlock
import Derived.Deep.RegionHeld3
import Derived.Laws.Rows
import Derived.Lib.AppendStr
import Derived.ArgAppend
import Derived.Laws.IdiomCopy
import Derived.OrdersHeld
import Derived.Laws.BitsLemmas
import Derived.RowKit
import Derived.Test.YtcaegaljhogbjaaGreatDoorOn
import Derived.Test.YtcaegaljhogbjaaGreatDoorYx6
import Derived.Test.YtcaegaljhogbjaaGreatDoorGraphIn
namespace Go.Proofs.YtcaegaljhogbjaaGreatDoor.Z
open Go.Proofs.YtcaegaljhogbjaaGreatDoor.Ext Go.Proofs.YtcaegaljhogbjaaGreatDoor.B Go.Proofs.YtcaegaljhogbjaaGreatDoor.Q Go.Proofs.YtcaegaljhogbjaaGreatDoor.Y Go.RowKit Go.Proofs.YtcaegaljhogbjaaGreatDoorW.PrintWords Go.Proofs.YtcaegaljhogbjaaGreatDoorW.PrintLast Go.Proofs.YtcaegaljhogbjaaGreatDoorW.PrintMore
attribute [local go_sem] max2_int min2_int max_two min_two max_three min_three max_four min_four   -- for this text's walks alone
set_option linter.unusedVariables false
set_option linter.unusedSimpArgs false



end Go.Proofs.YtcaegaljhogbjaaGreatDoor.Z

namespace Go.Proofs.YtcaegaljhogbjaaGreatDoor.Z
open Go.Proofs.YtcaegaljhogbjaaGreatDoor.Ext Go.Proofs.YtcaegaljhogbjaaGreatDoor.B Go.Proofs.YtcaegaljhogbjaaGreatDoor.Q Go.Proofs.YtcaegaljhogbjaaGreatDoor.Y Go.Proofs.YtcaegaljhogbjaaGreatDoor.Gr Go.RowKit Go.Proofs.YtcaegaljhogbjaaGreatDoorW.PrintWords Go.Proofs.YtcaegaljhogbjaaGreatDoorW.PrintLast Go.Proofs.YtcaegaljhogbjaaGreatDoorW.PrintMore
attribute [local go_sem] max2_int min2_int max_two min_two max_three min_three max_four min_four   -- for this text's walks alone
set_option linter.unusedVariables false
set_option linter.unusedSimpArgs false


/-! ### zau: function 26 -/
def zau.l0 : Nat → Int → Int → List Int → Int → Int → ByteArray → List (S38) → List (S40) → Int → Int → Option (Bool)
 | 0, _, _, _, _, _, _, _, _, _, _ => none
 | k + 1, x5, x6, x12, x13, x14, x130000, x130001, x130002, x130003, x130004 => if x14 < x13 then (if 0 ≤ x14 then (if x14 < (x12.length : Int) then (if 0 ≤ (wrap64 ((rd x12 x14) - 1)) then (if (wrap64 ((rd x12 x14) - 1)) < (x130001.length : Int) then (if ((zba x130001 (wrap64 ((rd x12 x14) - 1))).f0) = 1 then (zau.l0 k (wrap64 (x5 + 1)) x6 x12 x13 (wrap64 (x14 + 1)) x130000 x130001 x130002 x130003 x130004) else (if ((zba x130001 (wrap64 ((rd x12 x14) - 1))).f0) = 2 then (zau.l0 k x5 (wrap64 (x6 + 1)) x12 x13 (wrap64 (x14 + 1)) x130000 x130001 x130002 x130003 x130004) else (zau.l0 k x5 x6 x12 x13 (wrap64 (x14 + 1)) x130000 x130001 x130002 x130003 x130004))) else (none)) else (none)) else (none)) else (none)) else (if x5 = 1 then (some (x6 == 1)) else (some false))
def zau.f (k : Nat) (a0_0 : ByteArray) (l0_1 : List (S38)) (l0_2 : List (S40)) (a0_3 : Int) (a0_4 : Int) (a1 : Int) : Option (Bool) := (zbq.f k a0_0 l0_1 l0_2 a1).bind fun t130 => (zau.l0 k 0 0 t130 (t130.length : Int) 0 a0_0 l0_1 l0_2 a0_3 a0_4)
set_option maxHeartbeats 8000000 in
set_option maxRecDepth 100000 in
theorem zau.calls (k : Nat) (a0_0 : ByteArray) (A0_1 : Option Addr) (c0_1 : Nat) (l0_1 : List (S38)) (A0_2 : Option Addr) (c0_2 : Nat) (l0_2 : List (S40)) (a0_3 : Int) (a0_4 : Int) (a1 : Int) (r : Bool) (w : World) (hr0_1 : Kd.C k38 w A0_1 l0_1.length l0_1) (hc0_1 : l0_1.length ≤ c0_1) (hr0_2 : Kd.C k40 w A0_2 l0_2.length l0_2) (hc0_2 : l0_2.length ≤ c0_2) (h : zau.f k a0_0 l0_1 l0_2 a0_3 a0_4 a1 = some r) :
  Calls Tryz.prog 26 #[.agg #[.string a0_0, .slice A0_1 l0_1.length c0_1, .slice A0_2 l0_2.length c0_2, .map (some a0_3.toNat), .map (some a0_4.toNat)], .int .i64 a1] w fun e w' => e = .returned (.bool r) ∧ Below w.heap.size w w' := by
 have hu53 := Tryz.underlying53
 have hu25 := Tryz.underlying25
 have HR0_1 := mk0 hr0_1
 have HC0_1 := mk0 hc0_1
 clear hr0_1 hc0_1
 have HR0_2 := mk0 hr0_2
 have HC0_2 := mk0 hc0_2
 clear hr0_2 hc0_2
 have HB := mk0 (Below.refl w.heap.size w)
 have H : ((zbq.f k a0_0 l0_1 l0_2 a1).bind fun t130 => (zau.l0 k 0 0 t130 (t130.length : Int) 0 a0_0 l0_1 l0_2 a0_3 a0_4)) = some r := h
 clear h
 replace H := Option.bind_eq_some_iff.mp H
 obtain ⟨t130, A30, H⟩ := H
 replace H : (zau.l0 k 0 0 t130 (t130.length : Int) 0 a0_0 l0_1 l0_2 a0_3 a0_4) = some r := H
 have A3 := mk0 A30
 clear A30
 have H' := mk0 H
 clear H
 go_enter Tryz.func26, Tryz.ntmps26
 go_wp2_with (first | ((with_reducible refine gate_dst (N := 2) rfl ?_); refine box_event ?hg (N := 2) ?hd (cs := #[.string a0_0, .slice A0_1 l0_1.length c0_1, .slice A0_2 l0_2.length c0_2, .map (some a0_3.toNat), .map (some a0_4.toNat)]) (t := 53) ?hr ?_; (case hd => rfl); (case hg => rfl); (case hr => first | (go_simp; done) | (go_simp; rfl)); intro gb129 hg w4 hbox hb; have n0_ := mk0 (bst HB.out hb); have n1_ := mk0 (hbox); have n2_ := mk0 (gle hg HB.out); have n3_ := mk0 (gle hg HB.out); clear HB; have HB := n0_; have BK129 := n1_; have GW129 := n2_; have GE129 := n3_; clear n0_ n1_ n2_ n3_; clear hb hbox hg; obtain ⟨hcz5_0, hcz5_1, hcz5_2, hcz5_3, hcz5_4, hfz5_0, hfz5_1, hfz5_2, hfz5_3, hfz5_4⟩ := blk5 BK129.out) | ((with_reducible refine gate_callee (f := 14) rfl ?_); refine goesL_ (some 12) rfl rfl Tryz.func14 (by kernel_rfl) rfl #[.agg #[.string a0_0, .slice A0_1 l0_1.length c0_1, .slice A0_2 l0_2.length c0_2], .int .i64 a1] rfl (by (try simp only [List.map_toArray, List.map_cons, List.map_nil]); first | done | rfl | (simp only [List.length_drop, List.length_take]; rfl)) ?_; (with_reducible refine (zbq.calls k a0_0 _ _ l0_1 _ _ l0_2 a1 t130 _ ?side1 ?side2 ?side3 ?side4 A3.out).mono ?_); (case side1 => repeat (first | exact (Kd.C_below HR0_1.out HB.out) | (with_reducible refine Kd.C_alloc ?_ _) | (with_reducible refine Kd.C_drewN ?_ _) | (with_reducible refine Kd.C_drew ?_))); (case side2 => exact HC0_1.out); (case side3 => repeat (first | exact (Kd.C_below HR0_2.out HB.out) | (with_reducible refine Kd.C_alloc ?_ _) | (with_reducible refine Kd.C_drewN ?_ _) | (with_reducible refine Kd.C_drew ?_))); (case side4 => exact HC0_2.out); rintro e w6 ⟨v131, rfl, ho0, hb⟩; refine ⟨_, rfl, ?_⟩; have n0_ := mk0 (Kd.R_lower ho0 (below_size (by exact bok HB.out))); have n1_ := mk0 (blk_below (obk BK129.out) hb); have n2_ := mk0 (bst HB.out hb); clear BK129; clear HB; have HO132 := n0_; have BK129 := n1_; have HB := n2_; clear n0_ n1_ n2_; (try clear hb); (try clear ho0); obtain ⟨Ao7, co7, eo7⟩ := Kd.R_slice HO132.out; subst eo7))
 go_loopg [5, 6, 14] k (fun kq v5 v6 v14 w' => ∃ (x5_1 : Int) (x6_1 : Int) (x14_1 : Int), v5 = .int .i64 x5_1 ∧ v6 = .int .i64 x6_1 ∧ v14 = .int .i64 x14_1 ∧ Aside0 (zau.l0 kq x5_1 x6_1 t130 (t130.length : Int) x14_1 a0_0 l0_1 l0_2 a0_3 a0_4 = some r) ∧ Aside0 (kq ≤ k) ∧ Aside0 (Kd.R (Kd.int .i64) 3 w' w.heap.size (fun _ => True) (.slice Ao7 t130.length co7) t130) ∧ Aside0 (w'.heap[gb129]? = some (.cells #[.string a0_0, (.slice A0_1 l0_1.length c0_1), (.slice A0_2 l0_2.length c0_2), .map (some a0_3.toNat), .map (some a0_4.toNat)] 53 (0, 0))) ∧ Aside0 (Below w.heap.size w w'))
 case atStart => exact ⟨(0), (0), (0), (by first | rfl | (simp; done) | (simp [*]; done)), (by first | rfl | (simp; done) | (simp [*]; done)), (by first | rfl | (simp; done) | (simp [*]; done)), H', ⟨Nat.le_refl _⟩, ⟨by exact rok HO132.out⟩, ⟨by exact obk BK129.out⟩, ⟨by exact bok HB.out⟩⟩
 case round =>
  clear H'
  obtain ⟨x5_1, x6_1, x14_1, rfl, rfl, rfl, HA, HK1, HO_12, BK129, HB⟩ := hrel
  cases gk with
  | zero => exact absurd HA.out (by simp [zau.l0])
  | succ k1 =>
   have H := HA.out
   clear HA
   simp only [zau.l0] at H
   by_cases c8 : x14_1 < (t130.length : Int)
   ·
    rw [if_pos c8] at H
    have c8b0 : decide (x14_1 < (t130.length : Int)) = true := decide_eq_true c8
    clear c8
    by_cases c9 : 0 ≤ x14_1
    ·
     rw [if_pos c9] at H
     have c9b0 : decide (0 ≤ x14_1) = true := decide_eq_true c9
     clear c9
     by_cases c10 : x14_1 < (t130.length : Int)
     ·
      rw [if_pos c10] at H
      have c10b0 : decide (x14_1 < (t130.length : Int)) = true := decide_eq_true c10
      clear c10
      obtain ⟨ji11, hji11⟩ : ∃ j_ : Int, (wrap64 ((rd t130 x14_1) - 1)) = j_ := ⟨_, rfl⟩
      replace H : (if 0 ≤ (ji11) then (if (ji11) < (l0_1.length : Int) then (if ((zba l0_1 (ji11)).f0) = 1 then (zau.l0 k1 (wrap64 (x5_1 + 1)) x6_1 t130 (t130.length : Int) (wrap64 (x14_1 + 1)) a0_0 l0_1 l0_2 a0_3 a0_4) else (if ((zba l0_1 (ji11)).f0) = 2 then (zau.l0 k1 x5_1 (wrap64 (x6_1 + 1)) t130 (t130.length : Int) (wrap64 (x14_1 + 1)) a0_0 l0_1 l0_2 a0_3 a0_4) else (zau.l0 k1 x5_1 x6_1 t130 (t130.length : Int) (wrap64 (x14_1 + 1)) a0_0 l0_1 l0_2 a0_3 a0_4))) else (none)) else (none)) = some r := by first | (rw [hji11] at H; exact H) | (simp only [hji11] at H ⊢; exact H)
      have hji11w : (IntKind.i64.wrap ((rd t130 x14_1) - 1)) = ji11 := (i64_w _).trans hji11
      by_cases c12 : 0 ≤ (ji11)
      ·
       rw [if_pos c12] at H
       have c12b0 : decide (0 ≤ (ji11)) = true := decide_eq_true c12
       clear c12
       by_cases c13 : (ji11) < (l0_1.length : Int)
       ·
        rw [if_pos c13] at H
        have c13b0 : decide ((ji11) < (l0_1.length : Int)) = true := decide_eq_true c13
        clear c13
        by_cases c14 : ((zba l0_1 (ji11)).f0) = 1
        ·
         rw [if_pos c14] at H
         have c14b0 : (((zba l0_1 (ji11)).f0) == 1) = true := beq_iff_eq.mpr c14
         have c14b1 : (((zba l0_1 (ji11)).f0) != 1) = false := bne_eq_false_iff_eq.mpr c14
         clear c14
         have H' := mk0 H
         clear H
         have p133 : 0 ≤ (x14_1 : Int) := of_decide_eq_true (by assumption)
         have q133 : x14_1 < (t130.length : Int) := of_decide_eq_true (by assumption)
         obtain ⟨ad133, e133, hx133_0⟩ := Kd.at_int (Kd.R_reads' HO_12.out).2.2 x14_1 p133 q133
         cases e133
         replace p133 := eq_true p133
         replace q133 := eq_true q133
         obtain ⟨hcz15_0, hcz15_1, hcz15_2, hcz15_3, hcz15_4, hfz15_0, hfz15_1, hfz15_2, hfz15_3, hfz15_4⟩ := blk5 BK129.out
         have p134 : 0 ≤ ((ji11) : Int) := of_decide_eq_true (by assumption)
         have q134 : (ji11) < (l0_1.length : Int) := of_decide_eq_true (by assumption)
         obtain ⟨ad134, e134, hx134_0, hx134_1, hx134_2, hx134_3, hx134_4⟩ := zbc HR0_1.out (ji11) p134 q134
         cases e134
         replace hx134_0 := (HB.out.cell (World.block_lt_of_cell? w _ hx134_0)).trans hx134_0
         replace hx134_1 := (HB.out.cell (World.block_lt_of_cell? w _ hx134_1)).trans hx134_1
         replace hx134_2 := (HB.out.cell (World.block_lt_of_cell? w _ hx134_2)).trans hx134_2
         replace hx134_3 := (HB.out.cell (World.block_lt_of_cell? w _ hx134_3)).trans hx134_3
         replace hx134_4 := (HB.out.cell (World.block_lt_of_cell? w _ hx134_4)).trans hx134_4
         replace p134 := eq_true p134
         replace q134 := eq_true q134
         go_wp2
         go_roundg k1
         case measure => have := HK1.out; omega
         case rel => exact ⟨(wrap64 (x5_1 + 1)), (x6_1), (wrap64 (x14_1 + 1)), (by first | rfl | (simp; done) | (simp [*]; done)), (by first | rfl | (simp; done) | (simp [*]; done)), (by first | rfl | (simp; done) | (simp [*]; done)), H', ⟨by have := HK1.out; omega⟩, ⟨by exact rok HO_12.out⟩, ⟨by exact obk BK129.out⟩, ⟨by exact bok HB.out⟩⟩
        ·
         rw [if_neg c14] at H
         have c14b0 : (((zba l0_1 (ji11)).f0) == 1) = false := beq_eq_false_iff_ne.mpr c14
         have c14b1 : (((zba l0_1 (ji11)).f0) != 1) = true := bne_iff_ne.mpr c14
         by_cases c16 : ((zba l0_1 (ji11)).f0) = 2
         ·
          rw [if_pos c16] at H
          have c16b0 : (((zba l0_1 (ji11)).f0) == 2) = true := beq_iff_eq.mpr c16
          have c16b1 : (((zba l0_1 (ji11)).f0) != 2) = false := bne_eq_false_iff_eq.mpr c16
          clear c16
          have H' := mk0 H
          clear H
          have p133 : 0 ≤ (x14_1 : Int) := of_decide_eq_true (by assumption)
          have q133 : x14_1 < (t130.length : Int) := of_decide_eq_true (by assumption)
          obtain ⟨ad133, e133, hx133_0⟩ := Kd.at_int (Kd.R_reads' HO_12.out).2.2 x14_1 p133 q133
          cases e133
          replace p133 := eq_true p133
          replace q133 := eq_true q133
          obtain ⟨hcz17_0, hcz17_1, hcz17_2, hcz17_3, hcz17_4, hfz17_0, hfz17_1, hfz17_2, hfz17_3, hfz17_4⟩ := blk5 BK129.out
          have p134 : 0 ≤ ((ji11) : Int) := of_decide_eq_true (by assumption)
          have q134 : (ji11) < (l0_1.length : Int) := of_decide_eq_true (by assumption)
          obtain ⟨ad134, e134, hx134_0, hx134_1, hx134_2, hx134_3, hx134_4⟩ := zbc HR0_1.out (ji11) p134 q134
          cases e134
          replace hx134_0 := (HB.out.cell (World.block_lt_of_cell? w _ hx134_0)).trans hx134_0
          replace hx134_1 := (HB.out.cell (World.block_lt_of_cell? w _ hx134_1)).trans hx134_1
          replace hx134_2 := (HB.out.cell (World.block_lt_of_cell? w _ hx134_2)).trans hx134_2
          replace hx134_3 := (HB.out.cell (World.block_lt_of_cell? w _ hx134_3)).trans hx134_3
          replace hx134_4 := (HB.out.cell (World.block_lt_of_cell? w _ hx134_4)).trans hx134_4
          replace p134 := eq_true p134
          replace q134 := eq_true q134
          go_wp2
          go_roundg k1
          case measure => have := HK1.out; omega
          case rel => exact ⟨(x5_1), (wrap64 (x6_1 + 1)), (wrap64 (x14_1 + 1)), (by first | rfl | (simp; done) | (simp [*]; done)), (by first | rfl | (simp; done) | (simp [*]; done)), (by first | rfl | (simp; done) | (simp [*]; done)), H', ⟨by have := HK1.out; omega⟩, ⟨by exact rok HO_12.out⟩, ⟨by exact obk BK129.out⟩, ⟨by exact bok HB.out⟩⟩
         ·
          rw [if_neg c16] at H
          have c16b0 : (((zba l0_1 (ji11)).f0) == 2) = false := beq_eq_false_iff_ne.mpr c16
          have c16b1 : (((zba l0_1 (ji11)).f0) != 2) = true := bne_iff_ne.mpr c16
          have H' := mk0 H
          clear H
          have p133 : 0 ≤ (x14_1 : Int) := of_decide_eq_true (by assumption)
          have q133 : x14_1 < (t130.length : Int) := of_decide_eq_true (by assumption)
          obtain ⟨ad133, e133, hx133_0⟩ := Kd.at_int (Kd.R_reads' HO_12.out).2.2 x14_1 p133 q133
          cases e133
          replace p133 := eq_true p133
          replace q133 := eq_true q133
          obtain ⟨hcz18_0, hcz18_1, hcz18_2, hcz18_3, hcz18_4, hfz18_0, hfz18_1, hfz18_2, hfz18_3, hfz18_4⟩ := blk5 BK129.out
          have p134 : 0 ≤ ((ji11) : Int) := of_decide_eq_true (by assumption)
          have q134 : (ji11) < (l0_1.length : Int) := of_decide_eq_true (by assumption)
          obtain ⟨ad134, e134, hx134_0, hx134_1, hx134_2, hx134_3, hx134_4⟩ := zbc HR0_1.out (ji11) p134 q134
          cases e134
          replace hx134_0 := (HB.out.cell (World.block_lt_of_cell? w _ hx134_0)).trans hx134_0
          replace hx134_1 := (HB.out.cell (World.block_lt_of_cell? w _ hx134_1)).trans hx134_1
          replace hx134_2 := (HB.out.cell (World.block_lt_of_cell? w _ hx134_2)).trans hx134_2
          replace hx134_3 := (HB.out.cell (World.block_lt_of_cell? w _ hx134_3)).trans hx134_3
          replace hx134_4 := (HB.out.cell (World.block_lt_of_cell? w _ hx134_4)).trans hx134_4
          replace p134 := eq_true p134
          replace q134 := eq_true q134
          go_wp2
          go_roundg k1
          case measure => have := HK1.out; omega
          case rel => exact ⟨(x5_1), (x6_1), (wrap64 (x14_1 + 1)), (by first | rfl | (simp; done) | (simp [*]; done)), (by first | rfl | (simp; done) | (simp [*]; done)), (by first | rfl | (simp; done) | (simp [*]; done)), H', ⟨by have := HK1.out; omega⟩, ⟨by exact rok HO_12.out⟩, ⟨by exact obk BK129.out⟩, ⟨by exact bok HB.out⟩⟩
       ·
        rw [if_neg c13] at H
        exact absurd H (by simp)
      ·
       rw [if_neg c12] at H
       exact absurd H (by simp)
     ·
      rw [if_neg c10] at H
      exact absurd H (by simp)
    ·
     rw [if_neg c9] at H
     exact absurd H (by simp)
   ·
    rw [if_neg c8] at H
    have c8b0 : decide (x14_1 < (t130.length : Int)) = false := decide_eq_false c8
    clear c8
    by_cases c19 : x5_1 = 1
    ·
     rw [if_pos c19] at H
     have c19b0 : (x5_1 == 1) = true := beq_iff_eq.mpr c19
     have c19b1 : (x5_1 != 1) = false := bne_eq_false_iff_eq.mpr c19
     clear c19
     obtain rfl := Option.some.inj H
     go_wp2
     go_ret
     exact ⟨by first | rfl | (simp [*, zbe, zbf] <;> rfl) | (simp [zbe, zbf]; exact isEmpty_ne _), by exact bok HB.out⟩
    ·
     rw [if_neg c19] at H
     have c19b0 : (x5_1 == 1) = false := beq_eq_false_iff_ne.mpr c19
     have c19b1 : (x5_1 != 1) = true := bne_iff_ne.mpr c19
     obtain rfl := Option.some.inj H
     go_wp2
     go_ret
     exact ⟨by first | rfl | (simp [*, zbe, zbf] <;> rfl) | (simp [zbe, zbf]; exact isEmpty_ne _), by exact bok HB.out⟩

end Go.Proofs.YtcaegaljhogbjaaGreatDoor.Z
