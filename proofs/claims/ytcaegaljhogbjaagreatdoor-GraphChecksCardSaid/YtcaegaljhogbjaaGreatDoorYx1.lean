/- What Go functions compute, as plain Lean functions, and that the machine comes to just that: written by wip/tools/printx.py (my run of the printer, with contracts of mine beside it). -/
import Derived.Test.YtcaegaljhogbjaaGreatDoorOn
import Derived.Test.YtcaegaljhogbjaaGreatDoorYx0
set_option maxHeartbeats 8000000
set_option maxRecDepth 100000
namespace Go.Proofs.YtcaegaljhogbjaaGreatDoor.Y
open Go.Proofs.YtcaegaljhogbjaaGreatDoor.Ext Go.Proofs.YtcaegaljhogbjaaGreatDoor.B Go.Proofs.YtcaegaljhogbjaaGreatDoor.Q Go.RowKit Go.Proofs.YtcaegaljhogbjaaGreatDoorW.PrintWords Go.Proofs.YtcaegaljhogbjaaGreatDoorW.PrintLast Go.Proofs.YtcaegaljhogbjaaGreatDoorW.PrintMore
attribute [local go_sem] max2_int min2_int max_two min_two max_three min_three max_four min_four   -- for this text's walks alone
set_option linter.unusedVariables false
set_option linter.unusedSimpArgs false

/-! ### zas: function 53 -/
def zas.f (a0_0 : ByteArray) (l0_1 : List (S38)) (l0_2 : List (S40)) (a1 : Int) : Option (Bool) := if a1 ≥ 1 then (some (decide (a1 ≤ (l0_1.length : Int)))) else (some false)
theorem zas.calls (a0_0 : ByteArray) (A0_1 : Option Addr) (c0_1 : Nat) (l0_1 : List (S38)) (A0_2 : Option Addr) (c0_2 : Nat) (l0_2 : List (S40)) (a1 : Int) (r : Bool) (w : World) (hr0_1 : Kd.C k38 w A0_1 l0_1.length l0_1) (hc0_1 : l0_1.length ≤ c0_1) (hr0_2 : Kd.C k40 w A0_2 l0_2.length l0_2) (hc0_2 : l0_2.length ≤ c0_2) (h : zas.f a0_0 l0_1 l0_2 a1 = some r) :
  Calls Tryz.prog 53 #[.agg #[.string a0_0, .slice A0_1 l0_1.length c0_1, .slice A0_2 l0_2.length c0_2], .int .i64 a1] w fun e w' => e = .returned (.bool r) ∧ Below w.heap.size w w' := by
 have hu25 := Tryz.underlying25
 have HR0_1 := mk0 hr0_1
 have HC0_1 := mk0 hc0_1
 clear hr0_1 hc0_1
 have HR0_2 := mk0 hr0_2
 have HC0_2 := mk0 hc0_2
 clear hr0_2 hc0_2
 have HB := mk0 (Below.refl w.heap.size w)
 have H : (if a1 ≥ 1 then (some (decide (a1 ≤ (l0_1.length : Int)))) else (some false)) = some r := h
 clear h
 by_cases c3 : a1 ≥ 1
 ·
  rw [if_pos c3] at H
  have c3b0 : decide (1 ≤ a1) = true := decide_eq_true c3
  clear c3
  obtain rfl := Option.some.inj H
  go_enter Tryz.func53, Tryz.ntmps53
  go_wp2_with (first | ((with_reducible refine gate_dst (N := 2) rfl ?_); (try (refine gate_guard (by rfl) ?_; dsimp only)); refine box_event ?hg (N := 2) ?hd (cs := #[.string a0_0, .slice A0_1 l0_1.length c0_1, .slice A0_2 l0_2.length c0_2]) (t := 25) ?hr ?_; (case hd => rfl); (case hg => rfl); (case hr => first | (go_simp; done) | (go_simp; rfl)); intro gb101 hg w4 hbox hb; have n0_ := mk0 (bst HB.out hb); have n1_ := mk0 (hbox); have n2_ := mk0 (gle hg HB.out); have n3_ := mk0 (gle hg HB.out); clear HB; have HB := n0_; have BK101 := n1_; have GW101 := n2_; have GE101 := n3_; clear n0_ n1_ n2_ n3_; clear hb hbox hg; obtain ⟨hcz5_0, hcz5_1, hcz5_2, hfz5_0, hfz5_1, hfz5_2⟩ := blk3 BK101.out))
  go_ret
  exact ⟨by first | rfl | (simp [*, zbe, zbf] <;> rfl) | (simp [zbe, zbf]; exact isEmpty_ne _), by exact bok HB.out⟩
 ·
  rw [if_neg c3] at H
  have c3b0 : decide (1 ≤ a1) = false := decide_eq_false c3
  clear c3
  obtain rfl := Option.some.inj H
  go_enter Tryz.func53, Tryz.ntmps53
  go_wp2_with (first | ((with_reducible refine gate_dst (N := 2) rfl ?_); (try (refine gate_guard (by rfl) ?_; dsimp only)); refine box_event ?hg (N := 2) ?hd (cs := #[.string a0_0, .slice A0_1 l0_1.length c0_1, .slice A0_2 l0_2.length c0_2]) (t := 25) ?hr ?_; (case hd => rfl); (case hg => rfl); (case hr => first | (go_simp; done) | (go_simp; rfl)); intro gb101 hg w6 hbox hb; have n0_ := mk0 (bst HB.out hb); have n1_ := mk0 (hbox); have n2_ := mk0 (gle hg HB.out); have n3_ := mk0 (gle hg HB.out); clear HB; have HB := n0_; have BK101 := n1_; have GW101 := n2_; have GE101 := n3_; clear n0_ n1_ n2_ n3_; clear hb hbox hg))
  go_ret
  exact ⟨by first | rfl | (simp [*, zbe, zbf] <;> rfl) | (simp [zbe, zbf]; exact isEmpty_ne _), by exact bok HB.out⟩

/-! ### zak: function 48 -/
def zak.f (a0_0 : ByteArray) (l0_1 : List (S38)) (l0_2 : List (S40)) (a1 : Int) : Option (Int) := (zas.f a0_0 l0_1 l0_2 a1).bind fun t103 => (if t103 = true then (if 0 ≤ (wrap64 (a1 - 1)) then (if (wrap64 (a1 - 1)) < (l0_1.length : Int) then (some ((zba l0_1 (wrap64 (a1 - 1))).f0)) else (none)) else (none)) else (some 0))
theorem zak.calls (a0_0 : ByteArray) (A0_1 : Option Addr) (c0_1 : Nat) (l0_1 : List (S38)) (A0_2 : Option Addr) (c0_2 : Nat) (l0_2 : List (S40)) (a1 : Int) (r : Int) (w : World) (hr0_1 : Kd.C k38 w A0_1 l0_1.length l0_1) (hc0_1 : l0_1.length ≤ c0_1) (hr0_2 : Kd.C k40 w A0_2 l0_2.length l0_2) (hc0_2 : l0_2.length ≤ c0_2) (h : zak.f a0_0 l0_1 l0_2 a1 = some r) :
  Calls Tryz.prog 48 #[.agg #[.string a0_0, .slice A0_1 l0_1.length c0_1, .slice A0_2 l0_2.length c0_2], .int .i64 a1] w fun e w' => e = .returned (.int .i64 r) ∧ Below w.heap.size w w' := by
 have hu25 := Tryz.underlying25
 have HR0_1 := mk0 hr0_1
 have HC0_1 := mk0 hc0_1
 clear hr0_1 hc0_1
 have HR0_2 := mk0 hr0_2
 have HC0_2 := mk0 hc0_2
 clear hr0_2 hc0_2
 have HB := mk0 (Below.refl w.heap.size w)
 have H : ((zas.f a0_0 l0_1 l0_2 a1).bind fun t103 => (if t103 = true then (if 0 ≤ (wrap64 (a1 - 1)) then (if (wrap64 (a1 - 1)) < (l0_1.length : Int) then (some ((zba l0_1 (wrap64 (a1 - 1))).f0)) else (none)) else (none)) else (some 0))) = some r := h
 clear h
 replace H := Option.bind_eq_some_iff.mp H
 obtain ⟨t103, A30, H⟩ := H
 replace H : (if t103 = true then (if 0 ≤ (wrap64 (a1 - 1)) then (if (wrap64 (a1 - 1)) < (l0_1.length : Int) then (some ((zba l0_1 (wrap64 (a1 - 1))).f0)) else (none)) else (none)) else (some 0)) = some r := H
 have A3 := mk0 A30
 clear A30
 by_cases c4 : t103 = true
 ·
  subst c4
  have H1 : (if 0 ≤ (wrap64 (a1 - 1)) then (if (wrap64 (a1 - 1)) < (l0_1.length : Int) then (some ((zba l0_1 (wrap64 (a1 - 1))).f0)) else (none)) else (none)) = some r := by rw [if_pos rfl] at H; exact H
  clear H
  have H := H1
  clear H1
  obtain ⟨ji5, hji5⟩ : ∃ j_ : Int, (wrap64 (a1 - 1)) = j_ := ⟨_, rfl⟩
  replace H : (if 0 ≤ (ji5) then (if (ji5) < (l0_1.length : Int) then (some ((zba l0_1 (ji5)).f0)) else (none)) else (none)) = some r := by first | (rw [hji5] at H; exact H) | (simp only [hji5] at H ⊢; exact H)
  (try rw [hji5] at A3)
  have hji5w : (IntKind.i64.wrap (a1 - 1)) = ji5 := (i64_w _).trans hji5
  by_cases c6 : 0 ≤ (ji5)
  ·
   rw [if_pos c6] at H
   have c6b0 : decide (0 ≤ (ji5)) = true := decide_eq_true c6
   clear c6
   by_cases c7 : (ji5) < (l0_1.length : Int)
   ·
    rw [if_pos c7] at H
    have c7b0 : decide ((ji5) < (l0_1.length : Int)) = true := decide_eq_true c7
    clear c7
    obtain rfl := Option.some.inj H
    go_enter Tryz.func48, Tryz.ntmps48
    go_wp2_with (first | ((with_reducible refine gate_dst (N := 2) rfl ?_); refine box_event ?hg (N := 2) ?hd (cs := #[.string a0_0, .slice A0_1 l0_1.length c0_1, .slice A0_2 l0_2.length c0_2]) (t := 25) ?hr ?_; (case hd => rfl); (case hg => rfl); (case hr => first | (go_simp; done) | (go_simp; rfl)); intro gb102 hg w8 hbox hb; have n0_ := mk0 (bst HB.out hb); have n1_ := mk0 (hbox); have n2_ := mk0 (gle hg HB.out); have n3_ := mk0 (gle hg HB.out); clear HB; have HB := n0_; have BK102 := n1_; have GW102 := n2_; have GE102 := n3_; clear n0_ n1_ n2_ n3_; clear hb hbox hg; obtain ⟨hcz9_0, hcz9_1, hcz9_2, hfz9_0, hfz9_1, hfz9_2⟩ := blk3 BK102.out) | ((with_reducible refine gate_callee (f := 53) rfl ?_); refine goesL_ (some 7) rfl rfl Tryz.func53 (by kernel_rfl) rfl #[.agg #[.string a0_0, .slice A0_1 l0_1.length c0_1, .slice A0_2 l0_2.length c0_2], .int .i64 a1] rfl (by (try simp only [List.map_toArray, List.map_cons, List.map_nil]); first | done | rfl | (simp only [List.length_drop, List.length_take]; rfl)) ?_; (with_reducible refine (zas.calls a0_0 _ _ l0_1 _ _ l0_2 a1 true _ ?side1 ?side2 ?side3 ?side4 A3.out).mono ?_); (case side1 => repeat (first | exact (Kd.C_below HR0_1.out HB.out) | (with_reducible refine Kd.C_alloc ?_ _) | (with_reducible refine Kd.C_drewN ?_ _) | (with_reducible refine Kd.C_drew ?_))); (case side2 => exact HC0_1.out); (case side3 => repeat (first | exact (Kd.C_below HR0_2.out HB.out) | (with_reducible refine Kd.C_alloc ?_ _) | (with_reducible refine Kd.C_drewN ?_ _) | (with_reducible refine Kd.C_drew ?_))); (case side4 => exact HC0_2.out); rintro e w10 ⟨rfl, hb⟩; refine ⟨_, rfl, ?_⟩; have n0_ := mk0 (blk_below (obk BK102.out) hb); have n1_ := mk0 (bst HB.out hb); clear BK102; clear HB; have BK102 := n0_; have HB := n1_; clear n0_ n1_; (try clear hb); obtain ⟨hcz11_0, hcz11_1, hcz11_2, hfz11_0, hfz11_1, hfz11_2⟩ := blk3 BK102.out; have p104 : 0 ≤ ((ji5) : Int) := of_decide_eq_true (by assumption); have q104 : (ji5) < (l0_1.length : Int) := of_decide_eq_true (by assumption); obtain ⟨ad104, e104, hx104_0, hx104_1, hx104_2, hx104_3, hx104_4⟩ := zbc HR0_1.out (ji5) p104 q104; cases e104; replace hx104_0 := (HB.out.cell (World.block_lt_of_cell? w _ hx104_0)).trans hx104_0; replace hx104_1 := (HB.out.cell (World.block_lt_of_cell? w _ hx104_1)).trans hx104_1; replace hx104_2 := (HB.out.cell (World.block_lt_of_cell? w _ hx104_2)).trans hx104_2; replace hx104_3 := (HB.out.cell (World.block_lt_of_cell? w _ hx104_3)).trans hx104_3; replace hx104_4 := (HB.out.cell (World.block_lt_of_cell? w _ hx104_4)).trans hx104_4; replace p104 := eq_true p104; replace q104 := eq_true q104))
    go_ret
    exact ⟨by first | rfl | (simp [zbe, zbf] <;> rfl) | (simp only [← hji5]; first | rfl | (simp [zbe, zbf] <;> rfl)) | (simp [*, zbe, zbf] <;> rfl) | (simp [zbe, zbf]; exact isEmpty_ne _), by exact bok HB.out⟩
   ·
    rw [if_neg c7] at H
    exact absurd H (by simp)
  ·
   rw [if_neg c6] at H
   exact absurd H (by simp)
 ·
  replace c4 := Bool.eq_false_iff.mpr c4
  subst c4
  have H1 : (some 0) = some r := by rw [if_neg (show ¬ (false = true) by decide)] at H; exact H
  clear H
  have H := H1
  clear H1
  obtain rfl := Option.some.inj H
  go_enter Tryz.func48, Tryz.ntmps48
  go_wp2_with (first | ((with_reducible refine gate_dst (N := 2) rfl ?_); refine box_event ?hg (N := 2) ?hd (cs := #[.string a0_0, .slice A0_1 l0_1.length c0_1, .slice A0_2 l0_2.length c0_2]) (t := 25) ?hr ?_; (case hd => rfl); (case hg => rfl); (case hr => first | (go_simp; done) | (go_simp; rfl)); intro gb102 hg w12 hbox hb; have n0_ := mk0 (bst HB.out hb); have n1_ := mk0 (hbox); have n2_ := mk0 (gle hg HB.out); have n3_ := mk0 (gle hg HB.out); clear HB; have HB := n0_; have BK102 := n1_; have GW102 := n2_; have GE102 := n3_; clear n0_ n1_ n2_ n3_; clear hb hbox hg; obtain ⟨hcz13_0, hcz13_1, hcz13_2, hfz13_0, hfz13_1, hfz13_2⟩ := blk3 BK102.out) | ((with_reducible refine gate_callee (f := 53) rfl ?_); refine goesL_ (some 7) rfl rfl Tryz.func53 (by kernel_rfl) rfl #[.agg #[.string a0_0, .slice A0_1 l0_1.length c0_1, .slice A0_2 l0_2.length c0_2], .int .i64 a1] rfl (by (try simp only [List.map_toArray, List.map_cons, List.map_nil]); first | done | rfl | (simp only [List.length_drop, List.length_take]; rfl)) ?_; (with_reducible refine (zas.calls a0_0 _ _ l0_1 _ _ l0_2 a1 false _ ?side1 ?side2 ?side3 ?side4 A3.out).mono ?_); (case side1 => repeat (first | exact (Kd.C_below HR0_1.out HB.out) | (with_reducible refine Kd.C_alloc ?_ _) | (with_reducible refine Kd.C_drewN ?_ _) | (with_reducible refine Kd.C_drew ?_))); (case side2 => exact HC0_1.out); (case side3 => repeat (first | exact (Kd.C_below HR0_2.out HB.out) | (with_reducible refine Kd.C_alloc ?_ _) | (with_reducible refine Kd.C_drewN ?_ _) | (with_reducible refine Kd.C_drew ?_))); (case side4 => exact HC0_2.out); rintro e w14 ⟨rfl, hb⟩; refine ⟨_, rfl, ?_⟩; have n0_ := mk0 (blk_below (obk BK102.out) hb); have n1_ := mk0 (bst HB.out hb); clear BK102; clear HB; have BK102 := n0_; have HB := n1_; clear n0_ n1_; (try clear hb)))
  go_ret
  exact ⟨by first | rfl | (simp [*, zbe, zbf] <;> rfl) | (simp [zbe, zbf]; exact isEmpty_ne _), by exact bok HB.out⟩

/-! ### zaq: function 31 -/
def zaq.f (a0_0 : ByteArray) (l0_1 : List (S38)) (l0_2 : List (S40)) (a1 : Int) : Option (Bool) := (zak.f a0_0 l0_1 l0_2 a1).bind fun t106 => (if t106 = 7 then (some true) else ((zak.f a0_0 l0_1 l0_2 a1).bind fun t107 => (some (t107 == 9))))
theorem zaq.calls (a0_0 : ByteArray) (A0_1 : Option Addr) (c0_1 : Nat) (l0_1 : List (S38)) (A0_2 : Option Addr) (c0_2 : Nat) (l0_2 : List (S40)) (a1 : Int) (r : Bool) (w : World) (hr0_1 : Kd.C k38 w A0_1 l0_1.length l0_1) (hc0_1 : l0_1.length ≤ c0_1) (hr0_2 : Kd.C k40 w A0_2 l0_2.length l0_2) (hc0_2 : l0_2.length ≤ c0_2) (h : zaq.f a0_0 l0_1 l0_2 a1 = some r) :
  Calls Tryz.prog 31 #[.agg #[.string a0_0, .slice A0_1 l0_1.length c0_1, .slice A0_2 l0_2.length c0_2], .int .i64 a1] w fun e w' => e = .returned (.bool r) ∧ Below w.heap.size w w' := by
 have hu25 := Tryz.underlying25
 have HR0_1 := mk0 hr0_1
 have HC0_1 := mk0 hc0_1
 clear hr0_1 hc0_1
 have HR0_2 := mk0 hr0_2
 have HC0_2 := mk0 hc0_2
 clear hr0_2 hc0_2
 have HB := mk0 (Below.refl w.heap.size w)
 have H : ((zak.f a0_0 l0_1 l0_2 a1).bind fun t106 => (if t106 = 7 then (some true) else ((zak.f a0_0 l0_1 l0_2 a1).bind fun t107 => (some (t107 == 9))))) = some r := h
 clear h
 replace H := Option.bind_eq_some_iff.mp H
 obtain ⟨t106, A30, H⟩ := H
 replace H : (if t106 = 7 then (some true) else ((zak.f a0_0 l0_1 l0_2 a1).bind fun t107 => (some (t107 == 9)))) = some r := H
 have A3 := mk0 A30
 clear A30
 by_cases c4 : t106 = 7
 ·
  rw [if_pos c4] at H
  have c4b0 : (t106 == 7) = true := beq_iff_eq.mpr c4
  have c4b1 : (t106 != 7) = false := bne_eq_false_iff_eq.mpr c4
  clear c4
  obtain rfl := Option.some.inj H
  go_enter Tryz.func31, Tryz.ntmps31
  go_wp2_with (first | ((with_reducible refine gate_dst (N := 2) rfl ?_); refine box_event ?hg (N := 2) ?hd (cs := #[.string a0_0, .slice A0_1 l0_1.length c0_1, .slice A0_2 l0_2.length c0_2]) (t := 25) ?hr ?_; (case hd => rfl); (case hg => rfl); (case hr => first | (go_simp; done) | (go_simp; rfl)); intro gb105 hg w5 hbox hb; have n0_ := mk0 (bst HB.out hb); have n1_ := mk0 (hbox); have n2_ := mk0 (gle hg HB.out); have n3_ := mk0 (gle hg HB.out); clear HB; have HB := n0_; have BK105 := n1_; have GW105 := n2_; have GE105 := n3_; clear n0_ n1_ n2_ n3_; clear hb hbox hg; obtain ⟨hcz6_0, hcz6_1, hcz6_2, hfz6_0, hfz6_1, hfz6_2⟩ := blk3 BK105.out) | ((with_reducible refine gate_callee (f := 48) rfl ?_); refine goesL_ (some 7) rfl rfl Tryz.func48 (by kernel_rfl) rfl #[.agg #[.string a0_0, .slice A0_1 l0_1.length c0_1, .slice A0_2 l0_2.length c0_2], .int .i64 a1] rfl (by (try simp only [List.map_toArray, List.map_cons, List.map_nil]); first | done | rfl | (simp only [List.length_drop, List.length_take]; rfl)) ?_; (with_reducible refine (zak.calls a0_0 _ _ l0_1 _ _ l0_2 a1 t106 _ ?side1 ?side2 ?side3 ?side4 A3.out).mono ?_); (case side1 => repeat (first | exact (Kd.C_below HR0_1.out HB.out) | (with_reducible refine Kd.C_alloc ?_ _) | (with_reducible refine Kd.C_drewN ?_ _) | (with_reducible refine Kd.C_drew ?_))); (case side2 => exact HC0_1.out); (case side3 => repeat (first | exact (Kd.C_below HR0_2.out HB.out) | (with_reducible refine Kd.C_alloc ?_ _) | (with_reducible refine Kd.C_drewN ?_ _) | (with_reducible refine Kd.C_drew ?_))); (case side4 => exact HC0_2.out); rintro e w7 ⟨rfl, hb⟩; refine ⟨_, rfl, ?_⟩; have n0_ := mk0 (blk_below (obk BK105.out) hb); have n1_ := mk0 (bst HB.out hb); clear BK105; clear HB; have BK105 := n0_; have HB := n1_; clear n0_ n1_; (try clear hb)))
  go_ret
  exact ⟨by first | rfl | (simp [*, zbe, zbf] <;> rfl) | (simp [zbe, zbf]; exact isEmpty_ne _), by exact bok HB.out⟩
 ·
  rw [if_neg c4] at H
  have c4b0 : (t106 == 7) = false := beq_eq_false_iff_ne.mpr c4
  have c4b1 : (t106 != 7) = true := bne_iff_ne.mpr c4
  replace H := Option.bind_eq_some_iff.mp H
  obtain ⟨t107, A80, H⟩ := H
  replace H : (some (t107 == 9)) = some r := H
  have A8 := mk0 A80
  clear A80
  obtain rfl := Option.some.inj H
  go_enter Tryz.func31, Tryz.ntmps31
  go_wp2_with (first | ((with_reducible refine gate_dst (N := 2) rfl ?_); refine box_event ?hg (N := 2) ?hd (cs := #[.string a0_0, .slice A0_1 l0_1.length c0_1, .slice A0_2 l0_2.length c0_2]) (t := 25) ?hr ?_; (case hd => rfl); (case hg => rfl); (case hr => first | (go_simp; done) | (go_simp; rfl)); intro gb105 hg w9 hbox hb; have n0_ := mk0 (bst HB.out hb); have n1_ := mk0 (hbox); have n2_ := mk0 (gle hg HB.out); have n3_ := mk0 (gle hg HB.out); clear HB; have HB := n0_; have BK105 := n1_; have GW105 := n2_; have GE105 := n3_; clear n0_ n1_ n2_ n3_; clear hb hbox hg; obtain ⟨hcz10_0, hcz10_1, hcz10_2, hfz10_0, hfz10_1, hfz10_2⟩ := blk3 BK105.out) | ((with_reducible refine gate_callee (f := 48) rfl ?_); refine goesL_ (some 7) rfl rfl Tryz.func48 (by kernel_rfl) rfl #[.agg #[.string a0_0, .slice A0_1 l0_1.length c0_1, .slice A0_2 l0_2.length c0_2], .int .i64 a1] rfl (by (try simp only [List.map_toArray, List.map_cons, List.map_nil]); first | done | rfl | (simp only [List.length_drop, List.length_take]; rfl)) ?_; (with_reducible refine (zak.calls a0_0 _ _ l0_1 _ _ l0_2 a1 t106 _ ?side1 ?side2 ?side3 ?side4 A3.out).mono ?_); (case side1 => repeat (first | exact (Kd.C_below HR0_1.out HB.out) | (with_reducible refine Kd.C_alloc ?_ _) | (with_reducible refine Kd.C_drewN ?_ _) | (with_reducible refine Kd.C_drew ?_))); (case side2 => exact HC0_1.out); (case side3 => repeat (first | exact (Kd.C_below HR0_2.out HB.out) | (with_reducible refine Kd.C_alloc ?_ _) | (with_reducible refine Kd.C_drewN ?_ _) | (with_reducible refine Kd.C_drew ?_))); (case side4 => exact HC0_2.out); rintro e w11 ⟨rfl, hb⟩; refine ⟨_, rfl, ?_⟩; have n0_ := mk0 (blk_below (obk BK105.out) hb); have n1_ := mk0 (bst HB.out hb); clear BK105; clear HB; have BK105 := n0_; have HB := n1_; clear n0_ n1_; (try clear hb); obtain ⟨hcz12_0, hcz12_1, hcz12_2, hfz12_0, hfz12_1, hfz12_2⟩ := blk3 BK105.out) | (go_at_call 48; (with_reducible refine (zak.calls a0_0 _ _ l0_1 _ _ l0_2 a1 t107 _ ?side1 ?side2 ?side3 ?side4 A8.out).mono ?_); (case side1 => repeat (first | exact (Kd.C_below HR0_1.out HB.out) | (with_reducible refine Kd.C_alloc ?_ _) | (with_reducible refine Kd.C_drewN ?_ _) | (with_reducible refine Kd.C_drew ?_))); (case side2 => exact HC0_1.out); (case side3 => repeat (first | exact (Kd.C_below HR0_2.out HB.out) | (with_reducible refine Kd.C_alloc ?_ _) | (with_reducible refine Kd.C_drewN ?_ _) | (with_reducible refine Kd.C_drew ?_))); (case side4 => exact HC0_2.out); rintro e w13 ⟨rfl, hb⟩; have n0_ := mk0 (blk_below (obk BK105.out) hb); have n1_ := mk0 (bst HB.out hb); clear BK105; clear HB; have BK105 := n0_; have HB := n1_; clear n0_ n1_; (try clear hb)))
  go_ret
  exact ⟨by first | rfl | (simp [*, zbe, zbf] <;> rfl) | (simp [zbe, zbf]; exact isEmpty_ne _), by exact bok HB.out⟩


/-! ### zar: function 62 -/
def zar.f (k : Nat) (a0 : ByteArray) : Option (Int × Int × Bool) := (zaa.f k a0).bind fun bt109 => (if bt109.2 = 0 then (if bt109.1 = 0 then (some (0, 0, false)) else (some (1, bt109.1, true))) else (some (0, 0, false)))
theorem zar.calls (k : Nat) (a0 : ByteArray) (r1 : Int) (r2 : Int) (r3 : Bool) (w : World) (h : zar.f k a0 = some (r1, r2, r3)) :
  Calls Tryz.prog 62 #[.string a0] w fun e w' => e = .returned (.tuple #[.agg #[.int .i64 r1, .int .u64 r2], .bool r3]) ∧ Below w.heap.size w w' := by
 have hu46 := Tryz.underlying46
 have HB := mk0 (Below.refl w.heap.size w)
 have H : ((zaa.f k a0).bind fun bt109 => (if bt109.2 = 0 then (if bt109.1 = 0 then (some (0, 0, false)) else (some (1, bt109.1, true))) else (some (0, 0, false)))) = some (r1, r2, r3) := h
 clear h
 replace H := Option.bind_eq_some_iff.mp H
 obtain ⟨⟨t109, t110⟩, A20, H⟩ := H
 replace H : (if t110 = 0 then (if t109 = 0 then (some (0, 0, false)) else (some (1, t109, true))) else (some (0, 0, false))) = some (r1, r2, r3) := H
 have A2 := mk0 A20
 clear A20
 by_cases c3 : t110 = 0
 ·
  rw [if_pos c3] at H
  have c3b0 : (t110 == 0) = true := beq_iff_eq.mpr c3
  have c3b1 : (t110 != 0) = false := bne_eq_false_iff_eq.mpr c3
  clear c3
  by_cases c4 : t109 = 0
  ·
   rw [if_pos c4] at H
   have c4b0 : (t109 == 0) = true := beq_iff_eq.mpr c4
   have c4b1 : (t109 != 0) = false := bne_eq_false_iff_eq.mpr c4
   clear c4
   simp only [Option.some.injEq, Prod.mk.injEq] at H
   obtain ⟨rfl, rfl, rfl⟩ := H
   go_enter Tryz.func62, Tryz.ntmps62
   go_wp2_with (first | ((with_reducible refine gate_dst (N := 2) rfl ?_); refine box_event ?hg (N := 2) ?hd (cs := #[.int .i64 0, .int .u64 0]) (t := 46) ?hr ?_; (case hd => rfl); (case hg => rfl); (case hr => first | (go_simp; done) | (go_simp; rfl)); intro gb108 hg w5 hbox hb; have n0_ := mk0 (bst HB.out hb); have n1_ := mk0 (hbox); have n2_ := mk0 (gle hg HB.out); have n3_ := mk0 (gle hg HB.out); clear HB; have HB := n0_; have BK108 := n1_; have GW108 := n2_; have GE108 := n3_; clear n0_ n1_ n2_ n3_; clear hb hbox hg) | ((with_reducible refine gate_callee (f := 85) rfl ?_); refine goesL_ (some 8) rfl rfl Tryz.func85 (by kernel_rfl) rfl #[.string a0] rfl (by (try simp only [List.map_toArray, List.map_cons, List.map_nil]); first | done | rfl | (simp only [List.length_drop, List.length_take]; rfl)) ?_; (with_reducible refine (zaa.calls k a0 t109 t110 _ A2.out).mono ?_); rintro e w6 ⟨rfl, hb⟩; refine ⟨_, rfl, ?_⟩; have n0_ := mk0 (blk_below (obk BK108.out) hb); have n1_ := mk0 (bst HB.out hb); clear BK108; clear HB; have BK108 := n0_; have HB := n1_; clear n0_ n1_; (try clear hb); obtain ⟨hcz7_0, hcz7_1, hfz7_0, hfz7_1⟩ := blk2 BK108.out))
   refine bodyPost_ret (results_ct rfl _ _ gb108 46 #[.int .i64 0, .int .u64 0] (0, 0) _ rfl (by exact obk (blk_put (obk (blk_put (obk BK108.out) 0 _ rfl)) 1 _ rfl)) Tryz.underlying46 rfl (by kernel_rfl)) rfl ?_
   exact ⟨by first | rfl | (simp [*, zbe, zbf] <;> rfl) | (simp [zbe, zbf]; exact isEmpty_ne _), by exact bok HB.out⟩
  ·
   rw [if_neg c4] at H
   have c4b0 : (t109 == 0) = false := beq_eq_false_iff_ne.mpr c4
   have c4b1 : (t109 != 0) = true := bne_iff_ne.mpr c4
   simp only [Option.some.injEq, Prod.mk.injEq] at H
   obtain ⟨rfl, rfl, rfl⟩ := H
   go_enter Tryz.func62, Tryz.ntmps62
   go_wp2_with (first | ((with_reducible refine gate_dst (N := 2) rfl ?_); refine box_event ?hg (N := 2) ?hd (cs := #[.int .i64 0, .int .u64 0]) (t := 46) ?hr ?_; (case hd => rfl); (case hg => rfl); (case hr => first | (go_simp; done) | (go_simp; rfl)); intro gb108 hg w8 hbox hb; have n0_ := mk0 (bst HB.out hb); have n1_ := mk0 (hbox); have n2_ := mk0 (gle hg HB.out); have n3_ := mk0 (gle hg HB.out); clear HB; have HB := n0_; have BK108 := n1_; have GW108 := n2_; have GE108 := n3_; clear n0_ n1_ n2_ n3_; clear hb hbox hg) | ((with_reducible refine gate_callee (f := 85) rfl ?_); refine goesL_ (some 8) rfl rfl Tryz.func85 (by kernel_rfl) rfl #[.string a0] rfl (by (try simp only [List.map_toArray, List.map_cons, List.map_nil]); first | done | rfl | (simp only [List.length_drop, List.length_take]; rfl)) ?_; (with_reducible refine (zaa.calls k a0 t109 t110 _ A2.out).mono ?_); rintro e w9 ⟨rfl, hb⟩; refine ⟨_, rfl, ?_⟩; have n0_ := mk0 (blk_below (obk BK108.out) hb); have n1_ := mk0 (bst HB.out hb); clear BK108; clear HB; have BK108 := n0_; have HB := n1_; clear n0_ n1_; (try clear hb); obtain ⟨hcz10_0, hcz10_1, hfz10_0, hfz10_1⟩ := blk2 BK108.out))
   refine bodyPost_ret (results_ct rfl _ _ gb108 46 #[.int .i64 1, .int .u64 t109] (0, 0) _ rfl (by exact obk (blk_put (obk (blk_put (obk BK108.out) 0 _ rfl)) 1 _ rfl)) Tryz.underlying46 rfl (by kernel_rfl)) rfl ?_
   exact ⟨by first | rfl | (simp [*, zbe, zbf] <;> rfl) | (simp [zbe, zbf]; exact isEmpty_ne _), by exact bok HB.out⟩
 ·
  rw [if_neg c3] at H
  have c3b0 : (t110 == 0) = false := beq_eq_false_iff_ne.mpr c3
  have c3b1 : (t110 != 0) = true := bne_iff_ne.mpr c3
  simp only [Option.some.injEq, Prod.mk.injEq] at H
  obtain ⟨rfl, rfl, rfl⟩ := H
  go_enter Tryz.func62, Tryz.ntmps62
  go_wp2_with (first | ((with_reducible refine gate_dst (N := 2) rfl ?_); refine box_event ?hg (N := 2) ?hd (cs := #[.int .i64 0, .int .u64 0]) (t := 46) ?hr ?_; (case hd => rfl); (case hg => rfl); (case hr => first | (go_simp; done) | (go_simp; rfl)); intro gb108 hg w11 hbox hb; have n0_ := mk0 (bst HB.out hb); have n1_ := mk0 (hbox); have n2_ := mk0 (gle hg HB.out); have n3_ := mk0 (gle hg HB.out); clear HB; have HB := n0_; have BK108 := n1_; have GW108 := n2_; have GE108 := n3_; clear n0_ n1_ n2_ n3_; clear hb hbox hg) | ((with_reducible refine gate_callee (f := 85) rfl ?_); refine goesL_ (some 8) rfl rfl Tryz.func85 (by kernel_rfl) rfl #[.string a0] rfl (by (try simp only [List.map_toArray, List.map_cons, List.map_nil]); first | done | rfl | (simp only [List.length_drop, List.length_take]; rfl)) ?_; (with_reducible refine (zaa.calls k a0 t109 t110 _ A2.out).mono ?_); rintro e w12 ⟨rfl, hb⟩; refine ⟨_, rfl, ?_⟩; have n0_ := mk0 (blk_below (obk BK108.out) hb); have n1_ := mk0 (bst HB.out hb); clear BK108; clear HB; have BK108 := n0_; have HB := n1_; clear n0_ n1_; (try clear hb); obtain ⟨hcz13_0, hcz13_1, hfz13_0, hfz13_1⟩ := blk2 BK108.out))
  refine bodyPost_ret (results_ct rfl _ _ gb108 46 #[.int .i64 0, .int .u64 0] (0, 0) _ rfl (by exact obk (blk_put (obk (blk_put (obk BK108.out) 0 _ rfl)) 1 _ rfl)) Tryz.underlying46 rfl (by kernel_rfl)) rfl ?_
  exact ⟨by first | rfl | (simp [*, zbe, zbf] <;> rfl) | (simp [zbe, zbf]; exact isEmpty_ne _), by exact bok HB.out⟩


/-! ### zag: function 49 -/
mutual
def zag.j0 : Nat → Int → Int → Bool → ByteArray → List (S38) → List (S40) → Option (Int × Int × Bool)
 | 0, _, _, _, _, _, _ => none
 | k + 1, x1, x6, x23, x112000, x112001, x112002 => if x23 = true then (some (0, 0, false)) else (if 0 ≤ (wrap64 (x1 - 1)) then (if (wrap64 (x1 - 1)) < (x112001.length : Int) then ((zar.f k ((zba x112001 (wrap64 (x1 - 1))).f4)).bind fun bt115 => (if bt115.2.2 = true then (zag.j1 k ((zba x112001 (wrap64 (x1 - 1))).f4) bt115.2.2 true bt115.1 bt115.2.1) else (zag.j1 k ((zba x112001 (wrap64 (x1 - 1))).f4) bt115.2.2 (x6 != 9) bt115.1 bt115.2.1))) else (none)) else (none))
def zag.j1 : Nat → ByteArray → Bool → Bool → Int → Int → Option (Int × Int × Bool)
 | 0, _, _, _, _, _ => none
 | k + 1, x7, x9, x41, x119000, x119001 => if x41 = true then (some (x119000, x119001, x9)) else ((zab.f k x7).bind fun bt119 => (if bt119.2.2 = 0 then (if bt119.1 > 9 then (some (0, 0, false)) else (some (bt119.1, bt119.2.1, true))) else (some (0, 0, false))))
end
def zag.f (k : Nat) (a0_0 : ByteArray) (l0_1 : List (S38)) (l0_2 : List (S40)) (a1 : Int) : Option (Int × Int × Bool) := (zak.f a0_0 l0_1 l0_2 a1).bind fun t113 => (if t113 = 4 then (zag.j0 k a1 t113 false a0_0 l0_1 l0_2) else (if t113 = 8 then (zag.j0 k a1 t113 false a0_0 l0_1 l0_2) else (zag.j0 k a1 t113 (t113 != 9) a0_0 l0_1 l0_2)))
theorem zag.calls (k : Nat) (a0_0 : ByteArray) (A0_1 : Option Addr) (c0_1 : Nat) (l0_1 : List (S38)) (A0_2 : Option Addr) (c0_2 : Nat) (l0_2 : List (S40)) (a1 : Int) (r1 : Int) (r2 : Int) (r3 : Bool) (w : World) (hr0_1 : Kd.C k38 w A0_1 l0_1.length l0_1) (hc0_1 : l0_1.length ≤ c0_1) (hr0_2 : Kd.C k40 w A0_2 l0_2.length l0_2) (hc0_2 : l0_2.length ≤ c0_2) (h : zag.f k a0_0 l0_1 l0_2 a1 = some (r1, r2, r3)) :
  Calls Tryz.prog 49 #[.agg #[.string a0_0, .slice A0_1 l0_1.length c0_1, .slice A0_2 l0_2.length c0_2], .int .i64 a1] w fun e w' => e = .returned (.tuple #[.agg #[.int .i64 r1, .int .u64 r2], .bool r3]) ∧ Below w.heap.size w w' := by
 have hu25 := Tryz.underlying25
 have hu46 := Tryz.underlying46
 have HR0_1 := mk0 hr0_1
 have HC0_1 := mk0 hc0_1
 clear hr0_1 hc0_1
 have HR0_2 := mk0 hr0_2
 have HC0_2 := mk0 hc0_2
 clear hr0_2 hc0_2
 have HB := mk0 (Below.refl w.heap.size w)
 have H : ((zak.f a0_0 l0_1 l0_2 a1).bind fun t113 => (if t113 = 4 then (zag.j0 k a1 t113 false a0_0 l0_1 l0_2) else (if t113 = 8 then (zag.j0 k a1 t113 false a0_0 l0_1 l0_2) else (zag.j0 k a1 t113 (t113 != 9) a0_0 l0_1 l0_2)))) = some (r1, r2, r3) := h
 clear h
 replace H := Option.bind_eq_some_iff.mp H
 obtain ⟨t113, A30, H⟩ := H
 replace H : (if t113 = 4 then (zag.j0 k a1 t113 false a0_0 l0_1 l0_2) else (if t113 = 8 then (zag.j0 k a1 t113 false a0_0 l0_1 l0_2) else (zag.j0 k a1 t113 (t113 != 9) a0_0 l0_1 l0_2))) = some (r1, r2, r3) := H
 have A3 := mk0 A30
 clear A30
 have HC4 := mk0 H
 clear H
 go_enter Tryz.func49, Tryz.ntmps49
 go_upto_region 2 with (first | ((with_reducible refine gate_dst (N := 2) rfl ?_); refine box_event ?hg (N := 2) ?hd (cs := #[.string a0_0, .slice A0_1 l0_1.length c0_1, .slice A0_2 l0_2.length c0_2]) (t := 25) ?hr ?_; (case hd => rfl); (case hg => rfl); (case hr => first | (go_simp; done) | (go_simp; rfl)); intro gb111 hg w5 hbox hb; have n0_ := mk0 (bst HB.out hb); have n1_ := mk0 (hbox); have n2_ := mk0 (gle hg HB.out); have n3_ := mk0 (gle hg HB.out); clear HB; have HB := n0_; have BK111 := n1_; have GW111 := n2_; have GE111 := n3_; clear n0_ n1_ n2_ n3_; clear hb hbox hg) | ((with_reducible refine gate_dst (N := 4) rfl ?_); refine box_event ?hg (N := 4) ?hd (cs := #[.int .i64 0, .int .u64 0]) (t := 46) ?hr ?_; (case hd => rfl); (case hg => rfl); (case hr => first | (go_simp; done) | (go_simp; rfl)); intro gb112 hg w6 hbox hb; have n0_ := mk0 (blk_below (obk BK111.out) hb); have n1_ := mk0 (bst HB.out hb); have n2_ := mk0 (hbox); have n3_ := mk0 (gle hg HB.out); have n4_ := mk0 (gle hg HB.out); have n5_ := mk0 (nlt hg BK111.out); have n6_ := mk0 (ngt hg BK111.out); clear BK111; clear HB; have BK111 := n0_; have HB := n1_; have BK112 := n2_; have GW112 := n3_; have GE112 := n4_; have NB111_112 := n5_; have NB112_111 := n6_; clear n0_ n1_ n2_ n3_ n4_ n5_ n6_; clear hb hbox hg; have hnb7 := NB111_112.out; have hnc7 := NB112_111.out; obtain ⟨hcz8_0, hcz8_1, hcz8_2, hfz8_0, hfz8_1, hfz8_2⟩ := blk3 BK111.out) | ((with_reducible refine gate_callee (f := 48) rfl ?_); refine goesL_ (some 13) rfl rfl Tryz.func48 (by kernel_rfl) rfl #[.agg #[.string a0_0, .slice A0_1 l0_1.length c0_1, .slice A0_2 l0_2.length c0_2], .int .i64 a1] rfl (by (try simp only [List.map_toArray, List.map_cons, List.map_nil]); first | done | rfl | (simp only [List.length_drop, List.length_take]; rfl)) ?_; (with_reducible refine (zak.calls a0_0 _ _ l0_1 _ _ l0_2 a1 t113 _ ?side1 ?side2 ?side3 ?side4 A3.out).mono ?_); (case side1 => repeat (first | exact (Kd.C_below HR0_1.out HB.out) | (with_reducible refine Kd.C_alloc ?_ _) | (with_reducible refine Kd.C_drewN ?_ _) | (with_reducible refine Kd.C_drew ?_))); (case side2 => exact HC0_1.out); (case side3 => repeat (first | exact (Kd.C_below HR0_2.out HB.out) | (with_reducible refine Kd.C_alloc ?_ _) | (with_reducible refine Kd.C_drewN ?_ _) | (with_reducible refine Kd.C_drew ?_))); (case side4 => exact HC0_2.out); rintro e w9 ⟨rfl, hb⟩; refine ⟨_, rfl, ?_⟩; have n0_ := mk0 (blk_below (obk BK111.out) hb); have n1_ := mk0 (blk_below (obk BK112.out) hb); have n2_ := mk0 (bst HB.out hb); clear BK111; clear BK112; clear HB; have BK111 := n0_; have BK112 := n1_; have HB := n2_; clear n0_ n1_ n2_; (try clear hb)))
 (try simp only [Act.put, List.setIfInBounds_toArray, List.set_cons_zero, List.set_cons_succ])
 go_cut [23] (fun v23 wc => ∃ (kq : Nat) (x23_3 : Bool), v23 = .bool x23_3 ∧ Aside0 (zag.j0 kq a1 t113 x23_3 a0_0 l0_1 l0_2 = some (r1, r2, r3)) ∧ Aside0 (kq ≤ k) ∧ Aside0 (wc.heap[gb111]? = some (.cells #[.string a0_0, (.slice A0_1 l0_1.length c0_1), (.slice A0_2 l0_2.length c0_2)] 25 (0, 0))) ∧ Aside0 (wc.heap[gb112]? = some (.cells #[.int .i64 0, .int .u64 0] 46 (0, 0))) ∧ Aside0 (Below w.heap.size w wc))
 case first =>
  have H := HC4.out
  clear HC4
  by_cases c10 : t113 = 4
  ·
   rw [if_pos c10] at H
   have c10b0 : (t113 == 4) = true := beq_iff_eq.mpr c10
   have c10b1 : (t113 != 4) = false := bne_eq_false_iff_eq.mpr c10
   clear c10
   (first | rw [c10b0] | (simp only [i64_w, i32_w]; rw [c10b0]) | skip)
   have H' := mk0 H
   clear H
   go_wp2
   go_meet
   case rel => exact ⟨_, (false), (by first | rfl | (simp; done) | (simp [*]; done)), H', ⟨by first | omega | exact Nat.le_refl _⟩, ⟨by exact obk BK111.out⟩, ⟨by exact obk BK112.out⟩, ⟨by exact bok HB.out⟩⟩
  ·
   rw [if_neg c10] at H
   have c10b0 : (t113 == 4) = false := beq_eq_false_iff_ne.mpr c10
   have c10b1 : (t113 != 4) = true := bne_iff_ne.mpr c10
   (first | rw [c10b0] | (simp only [i64_w, i32_w]; rw [c10b0]) | skip)
   by_cases c11 : t113 = 8
   ·
    rw [if_pos c11] at H
    have c11b0 : (t113 == 8) = true := beq_iff_eq.mpr c11
    have c11b1 : (t113 != 8) = false := bne_eq_false_iff_eq.mpr c11
    clear c11
    have H' := mk0 H
    clear H
    go_wp2
    go_meet
    case rel => exact ⟨_, (false), (by first | rfl | (simp; done) | (simp [*]; done)), H', ⟨by first | omega | exact Nat.le_refl _⟩, ⟨by exact obk BK111.out⟩, ⟨by exact obk BK112.out⟩, ⟨by exact bok HB.out⟩⟩
   ·
    rw [if_neg c11] at H
    have c11b0 : (t113 == 8) = false := beq_eq_false_iff_ne.mpr c11
    have c11b1 : (t113 != 8) = true := bne_iff_ne.mpr c11
    have H' := mk0 H
    clear H
    go_wp2
    go_meet
    case rel => exact ⟨_, ((t113 != 9)), (by first | rfl | (simp; done) | (simp [*]; done)), H', ⟨by first | omega | exact Nat.le_refl _⟩, ⟨by exact obk BK111.out⟩, ⟨by exact obk BK112.out⟩, ⟨by exact bok HB.out⟩⟩
 case rest =>
  clear HC4
  obtain ⟨kq, x23_3, rfl, HA, HJ3, BK111, BK112, HB⟩ := hcut
  cases kq with
  | zero => exact absurd HA.out (by simp [zag.j0])
  | succ kj3 =>
   have H := HA.out
   clear HA
   simp only [zag.j0] at H
   by_cases c12 : x23_3 = true
   ·
    subst c12
    have H1 : (some (0, 0, false)) = some (r1, r2, r3) := by rw [if_pos rfl] at H; exact H
    clear H
    have H := H1
    clear H1
    simp only [Option.some.injEq, Prod.mk.injEq] at H
    obtain ⟨rfl, rfl, rfl⟩ := H
    have hnb13 := NB112_111.out
    have hnc13 := NB111_112.out
    obtain ⟨hcz14_0, hcz14_1, hfz14_0, hfz14_1⟩ := blk2 BK112.out
    go_wp2
    refine bodyPost_ret (results_ct rfl _ _ gb112 46 #[.int .i64 0, .int .u64 0] (0, 0) _ rfl (by exact obk (blk_put (obk (blk_put (obk BK112.out) 0 _ rfl)) 1 _ rfl)) Tryz.underlying46 rfl (by kernel_rfl)) rfl ?_
    exact ⟨by first | rfl | (simp [*, zbe, zbf] <;> rfl) | (simp [zbe, zbf]; exact isEmpty_ne _), by exact bok HB.out⟩
   ·
    replace c12 := Bool.eq_false_iff.mpr c12
    subst c12
    have H1 : (if 0 ≤ (wrap64 (a1 - 1)) then (if (wrap64 (a1 - 1)) < (l0_1.length : Int) then ((zar.f kj3 ((zba l0_1 (wrap64 (a1 - 1))).f4)).bind fun bt115 => (if bt115.2.2 = true then (zag.j1 kj3 ((zba l0_1 (wrap64 (a1 - 1))).f4) bt115.2.2 true bt115.1 bt115.2.1) else (zag.j1 kj3 ((zba l0_1 (wrap64 (a1 - 1))).f4) bt115.2.2 (t113 != 9) bt115.1 bt115.2.1))) else (none)) else (none)) = some (r1, r2, r3) := by rw [if_neg (show ¬ (false = true) by decide)] at H; exact H
    clear H
    have H := H1
    clear H1
    obtain ⟨ji15, hji15⟩ : ∃ j_ : Int, (wrap64 (a1 - 1)) = j_ := ⟨_, rfl⟩
    replace H : (if 0 ≤ (ji15) then (if (ji15) < (l0_1.length : Int) then ((zar.f kj3 ((zba l0_1 (ji15)).f4)).bind fun bt115 => (if bt115.2.2 = true then (zag.j1 kj3 ((zba l0_1 (ji15)).f4) bt115.2.2 true bt115.1 bt115.2.1) else (zag.j1 kj3 ((zba l0_1 (ji15)).f4) bt115.2.2 (t113 != 9) bt115.1 bt115.2.1))) else (none)) else (none)) = some (r1, r2, r3) := by first | (rw [hji15] at H; exact H) | (simp only [hji15] at H ⊢; exact H)
    have hji15w : (IntKind.i64.wrap (a1 - 1)) = ji15 := (i64_w _).trans hji15
    by_cases c16 : 0 ≤ (ji15)
    ·
     rw [if_pos c16] at H
     have c16b0 : decide (0 ≤ (ji15)) = true := decide_eq_true c16
     clear c16
     by_cases c17 : (ji15) < (l0_1.length : Int)
     ·
      rw [if_pos c17] at H
      have c17b0 : decide ((ji15) < (l0_1.length : Int)) = true := decide_eq_true c17
      clear c17
      replace H := Option.bind_eq_some_iff.mp H
      obtain ⟨⟨t115, t116, t117⟩, A180, H⟩ := H
      replace H : (if t117 = true then (zag.j1 kj3 ((zba l0_1 (ji15)).f4) t117 true t115 t116) else (zag.j1 kj3 ((zba l0_1 (ji15)).f4) t117 (t113 != 9) t115 t116)) = some (r1, r2, r3) := H
      have A18 := mk0 A180
      clear A180
      have HC19 := mk0 H
      clear H
      have hnb20 := NB111_112.out
      have hnc20 := NB112_111.out
      obtain ⟨hcz21_0, hcz21_1, hcz21_2, hfz21_0, hfz21_1, hfz21_2⟩ := blk3 BK111.out
      have p114 : 0 ≤ ((ji15) : Int) := of_decide_eq_true (by assumption)
      have q114 : (ji15) < (l0_1.length : Int) := of_decide_eq_true (by assumption)
      obtain ⟨ad114, e114, hx114_0, hx114_1, hx114_2, hx114_3, hx114_4⟩ := zbc HR0_1.out (ji15) p114 q114
      cases e114
      replace hx114_0 := (HB.out.cell (World.block_lt_of_cell? w _ hx114_0)).trans hx114_0
      replace hx114_1 := (HB.out.cell (World.block_lt_of_cell? w _ hx114_1)).trans hx114_1
      replace hx114_2 := (HB.out.cell (World.block_lt_of_cell? w _ hx114_2)).trans hx114_2
      replace hx114_3 := (HB.out.cell (World.block_lt_of_cell? w _ hx114_3)).trans hx114_3
      replace hx114_4 := (HB.out.cell (World.block_lt_of_cell? w _ hx114_4)).trans hx114_4
      replace p114 := eq_true p114
      replace q114 := eq_true q114
      go_upto_region 6 with (first | ((with_reducible refine gate_callee (f := 62) rfl ?_); refine goesL_ (some 34) rfl rfl Tryz.func62 (by kernel_rfl) rfl #[.string ((zba l0_1 (ji15)).f4)] rfl (by (try simp only [List.map_toArray, List.map_cons, List.map_nil]); first | done | (simp only [hji15]; rfl) | rfl | (simp only [List.length_drop, List.length_take]; rfl)) ?_; (with_reducible refine (zar.calls kj3 ((zba l0_1 (ji15)).f4) t115 t116 t117 _ A18.out).mono ?_); rintro e w22 ⟨rfl, hb⟩; refine ⟨_, rfl, ?_⟩; have n0_ := mk0 (blk_below (obk BK111.out) hb); have n1_ := mk0 (blk_below (obk BK112.out) hb); have n2_ := mk0 (bst HB.out hb); clear BK111; clear BK112; clear HB; have BK111 := n0_; have BK112 := n1_; have HB := n2_; clear n0_ n1_ n2_; (try clear hb)) | ((with_reducible refine gate_dst (N := 8) rfl ?_); refine box_event ?hg (N := 8) ?hd (cs := #[.int .i64 0, .int .u64 0]) (t := 46) ?hr ?_; (case hd => rfl); (case hg => rfl); (case hr => first | (go_simp; done) | (go_simp; rfl)); intro gb118 hg w23 hbox hb; have n0_ := mk0 (blk_below (obk BK111.out) hb); have n1_ := mk0 (blk_below (obk BK112.out) hb); have n2_ := mk0 (bst HB.out hb); have n3_ := mk0 (hbox); have n4_ := mk0 (gle hg HB.out); have n5_ := mk0 (gle hg HB.out); have n6_ := mk0 (nlt hg BK111.out); have n7_ := mk0 (ngt hg BK111.out); have n8_ := mk0 (nlt hg BK112.out); have n9_ := mk0 (ngt hg BK112.out); clear BK111; clear BK112; clear HB; have BK111 := n0_; have BK112 := n1_; have HB := n2_; have BK118 := n3_; have GW118 := n4_; have GE118 := n5_; have NB111_118 := n6_; have NB118_111 := n7_; have NB112_118 := n8_; have NB118_112 := n9_; clear n0_ n1_ n2_ n3_ n4_ n5_ n6_ n7_ n8_ n9_; clear hb hbox hg; have hnb24 := NB118_111.out; have hnc24 := NB111_118.out; have hnb25 := NB118_112.out; have hnc25 := NB112_118.out; obtain ⟨hcz26_0, hcz26_1, hfz26_0, hfz26_1⟩ := blk2 BK118.out))
      (try simp only [Act.put, List.setIfInBounds_toArray, List.set_cons_zero, List.set_cons_succ])
      go_cut [41] (fun v41 wc => ∃ (kq : Nat) (x41_18 : Bool), v41 = .bool x41_18 ∧ Aside0 (zag.j1 kq ((zba l0_1 (ji15)).f4) t117 x41_18 t115 t116 = some (r1, r2, r3)) ∧ Aside0 (kq ≤ kj3) ∧ Aside0 (wc.heap[gb111]? = some (.cells #[.string a0_0, (.slice (some ad114) l0_1.length c0_1), (.slice A0_2 l0_2.length c0_2)] 25 (0, 0))) ∧ Aside0 (wc.heap[gb112]? = some (.cells #[.int .i64 0, .int .u64 0] 46 (0, 0))) ∧ Aside0 (wc.heap[gb118]? = some (.cells #[.int .i64 t115, .int .u64 t116] 46 (0, 0))) ∧ Aside0 (Below w.heap.size w wc))
      case first =>
       have H := HC19.out
       clear HC19
       by_cases c27 : t117 = true
       ·
        subst c27
        have H1 : (zag.j1 kj3 ((zba l0_1 (ji15)).f4) true true t115 t116) = some (r1, r2, r3) := by rw [if_pos rfl] at H; exact H
        clear H
        have H := H1
        clear H1
        have H' := mk0 H
        clear H
        go_wp2
        go_meet
        case rel => exact ⟨_, (true), (by first | rfl | (simp; done) | (simp [*]; done)), H', ⟨by have := HJ3.out; first | omega | exact Nat.le_refl _⟩, ⟨by refine obk ?_; refine blk_far ?_ NB111_118.out _; refine obk ?_; refine blk_far ?_ NB111_118.out _; exact obk BK111.out⟩, ⟨by refine obk ?_; refine blk_far ?_ NB112_118.out _; refine obk ?_; refine blk_far ?_ NB112_118.out _; exact obk BK112.out⟩, ⟨by refine obk ?_; refine blk_put (cs := #[.int .i64 t115, .int .u64 0]) ?_ 1 _ rfl; refine obk ?_; refine blk_put (cs := #[.int .i64 0, .int .u64 0]) ?_ 0 _ rfl; exact obk BK118.out⟩, ⟨by exact bok HB.out⟩⟩
       ·
        replace c27 := Bool.eq_false_iff.mpr c27
        subst c27
        have H1 : (zag.j1 kj3 ((zba l0_1 (ji15)).f4) false (t113 != 9) t115 t116) = some (r1, r2, r3) := by rw [if_neg (show ¬ (false = true) by decide)] at H; exact H
        clear H
        have H := H1
        clear H1
        have H' := mk0 H
        clear H
        go_wp2
        go_meet
        case rel => exact ⟨_, ((t113 != 9)), (by first | rfl | (simp; done) | (simp [*]; done)), H', ⟨by have := HJ3.out; first | omega | exact Nat.le_refl _⟩, ⟨by refine obk ?_; refine blk_far ?_ NB111_118.out _; refine obk ?_; refine blk_far ?_ NB111_118.out _; exact obk BK111.out⟩, ⟨by refine obk ?_; refine blk_far ?_ NB112_118.out _; refine obk ?_; refine blk_far ?_ NB112_118.out _; exact obk BK112.out⟩, ⟨by refine obk ?_; refine blk_put (cs := #[.int .i64 t115, .int .u64 0]) ?_ 1 _ rfl; refine obk ?_; refine blk_put (cs := #[.int .i64 0, .int .u64 0]) ?_ 0 _ rfl; exact obk BK118.out⟩, ⟨by exact bok HB.out⟩⟩
      case rest =>
       clear HC19
       obtain ⟨kq, x41_18, rfl, HA, HJ18, BK111, BK112, BK118, HB⟩ := hcut
       cases kq with
       | zero => exact absurd HA.out (by simp [zag.j1])
       | succ kj18 =>
        have H := HA.out
        clear HA
        simp only [zag.j1] at H
        by_cases c28 : x41_18 = true
        ·
         subst c28
         have H1 : (some (t115, t116, t117)) = some (r1, r2, r3) := by rw [if_pos rfl] at H; exact H
         clear H
         have H := H1
         clear H1
         simp only [Option.some.injEq, Prod.mk.injEq] at H
         obtain ⟨rfl, rfl, rfl⟩ := H
         have hnb29 := NB118_111.out
         have hnc29 := NB111_118.out
         have hnb30 := NB118_112.out
         have hnc30 := NB112_118.out
         obtain ⟨hcz31_0, hcz31_1, hfz31_0, hfz31_1⟩ := blk2 BK118.out
         have hnb32 := NB112_111.out
         have hnc32 := NB111_112.out
         obtain ⟨hcz33_0, hcz33_1, hfz33_0, hfz33_1⟩ := blk2 BK112.out
         go_wp2
         refine bodyPost_ret (results_ct rfl _ _ gb112 46 #[.int .i64 t115, .int .u64 t116] (0, 0) _ rfl (by exact obk (blk_put (obk (blk_put (obk BK112.out) 0 _ rfl)) 1 _ rfl)) Tryz.underlying46 rfl (by kernel_rfl)) rfl ?_
         exact ⟨by first | rfl | (simp [zbe, zbf] <;> rfl) | (simp only [← hji15]; first | rfl | (simp [zbe, zbf] <;> rfl)) | (simp [*, zbe, zbf] <;> rfl) | (simp [zbe, zbf]; exact isEmpty_ne _), by exact bok HB.out⟩
        ·
         replace c28 := Bool.eq_false_iff.mpr c28
         subst c28
         have H1 : ((zab.f kj18 ((zba l0_1 (ji15)).f4)).bind fun bt119 => (if bt119.2.2 = 0 then (if bt119.1 > 9 then (some (0, 0, false)) else (some (bt119.1, bt119.2.1, true))) else (some (0, 0, false)))) = some (r1, r2, r3) := by rw [if_neg (show ¬ (false = true) by decide)] at H; exact H
         clear H
         have H := H1
         clear H1
         replace H := Option.bind_eq_some_iff.mp H
         obtain ⟨⟨t119, t120, t121⟩, A340, H⟩ := H
         replace H : (if t121 = 0 then (if t119 > 9 then (some (0, 0, false)) else (some (t119, t120, true))) else (some (0, 0, false))) = some (r1, r2, r3) := H
         have A34 := mk0 A340
         clear A340
         by_cases c35 : t121 = 0
         ·
          rw [if_pos c35] at H
          have c35b0 : (t121 == 0) = true := beq_iff_eq.mpr c35
          have c35b1 : (t121 != 0) = false := bne_eq_false_iff_eq.mpr c35
          clear c35
          by_cases c36 : t119 > 9
          ·
           rw [if_pos c36] at H
           have c36b0 : decide (9 < t119) = true := decide_eq_true c36
           clear c36
           simp only [Option.some.injEq, Prod.mk.injEq] at H
           obtain ⟨rfl, rfl, rfl⟩ := H
           go_wp2_with (first | ((with_reducible refine gate_callee (f := 63) rfl ?_); refine goesL_ (some 46) rfl rfl Tryz.func63 (by kernel_rfl) rfl #[.string ((zba l0_1 (ji15)).f4)] rfl (by (try simp only [List.map_toArray, List.map_cons, List.map_nil]); first | done | (simp only [hji15]; rfl) | rfl | (simp only [List.length_drop, List.length_take]; rfl)) ?_; (with_reducible refine (zab.calls kj18 ((zba l0_1 (ji15)).f4) t119 t120 t121 _ A34.out).mono ?_); rintro e w37 ⟨rfl, hb⟩; refine ⟨_, rfl, ?_⟩; have n0_ := mk0 (blk_below (obk BK111.out) hb); have n1_ := mk0 (blk_below (obk BK112.out) hb); have n2_ := mk0 (blk_below (obk BK118.out) hb); have n3_ := mk0 (bst HB.out hb); clear BK111; clear BK112; clear BK118; clear HB; have BK111 := n0_; have BK112 := n1_; have BK118 := n2_; have HB := n3_; clear n0_ n1_ n2_ n3_; (try clear hb); have hnb38 := NB118_111.out; have hnc38 := NB111_118.out; have hnb39 := NB118_112.out; have hnc39 := NB112_118.out; obtain ⟨hcz40_0, hcz40_1, hfz40_0, hfz40_1⟩ := blk2 BK118.out; have hnb41 := NB112_111.out; have hnc41 := NB111_112.out; obtain ⟨hcz42_0, hcz42_1, hfz42_0, hfz42_1⟩ := blk2 BK112.out))
           refine bodyPost_ret (results_ct rfl _ _ gb112 46 #[.int .i64 0, .int .u64 0] (0, 0) _ rfl (by exact obk (blk_put (obk (blk_put (obk (blkf (obk (blkf (obk BK112.out) NB112_118.out)) NB112_118.out)) 0 _ rfl)) 1 _ rfl)) Tryz.underlying46 rfl (by kernel_rfl)) rfl ?_
           exact ⟨by first | rfl | (simp [zbe, zbf] <;> rfl) | (simp only [← hji15]; first | rfl | (simp [zbe, zbf] <;> rfl)) | (simp [*, zbe, zbf] <;> rfl) | (simp [zbe, zbf]; exact isEmpty_ne _), by exact bok HB.out⟩
          ·
           rw [if_neg c36] at H
           have c36b0 : decide (9 < t119) = false := decide_eq_false c36
           clear c36
           simp only [Option.some.injEq, Prod.mk.injEq] at H
           obtain ⟨rfl, rfl, rfl⟩ := H
           go_wp2_with (first | ((with_reducible refine gate_callee (f := 63) rfl ?_); refine goesL_ (some 46) rfl rfl Tryz.func63 (by kernel_rfl) rfl #[.string ((zba l0_1 (ji15)).f4)] rfl (by (try simp only [List.map_toArray, List.map_cons, List.map_nil]); first | done | (simp only [hji15]; rfl) | rfl | (simp only [List.length_drop, List.length_take]; rfl)) ?_; (with_reducible refine (zab.calls kj18 ((zba l0_1 (ji15)).f4) t119 t120 t121 _ A34.out).mono ?_); rintro e w43 ⟨rfl, hb⟩; refine ⟨_, rfl, ?_⟩; have n0_ := mk0 (blk_below (obk BK111.out) hb); have n1_ := mk0 (blk_below (obk BK112.out) hb); have n2_ := mk0 (blk_below (obk BK118.out) hb); have n3_ := mk0 (bst HB.out hb); clear BK111; clear BK112; clear BK118; clear HB; have BK111 := n0_; have BK112 := n1_; have BK118 := n2_; have HB := n3_; clear n0_ n1_ n2_ n3_; (try clear hb); have hnb44 := NB118_111.out; have hnc44 := NB111_118.out; have hnb45 := NB118_112.out; have hnc45 := NB112_118.out; obtain ⟨hcz46_0, hcz46_1, hfz46_0, hfz46_1⟩ := blk2 BK118.out; have hnb47 := NB112_111.out; have hnc47 := NB111_112.out; obtain ⟨hcz48_0, hcz48_1, hfz48_0, hfz48_1⟩ := blk2 BK112.out))
           refine bodyPost_ret (results_ct rfl _ _ gb112 46 #[.int .i64 t119, .int .u64 t120] (0, 0) _ rfl (by exact obk (blk_put (obk (blk_put (obk (blkf (obk (blkf (obk BK112.out) NB112_118.out)) NB112_118.out)) 0 _ rfl)) 1 _ rfl)) Tryz.underlying46 rfl (by kernel_rfl)) rfl ?_
           exact ⟨by first | rfl | (simp [zbe, zbf] <;> rfl) | (simp only [← hji15]; first | rfl | (simp [zbe, zbf] <;> rfl)) | (simp [*, zbe, zbf] <;> rfl) | (simp [zbe, zbf]; exact isEmpty_ne _), by exact bok HB.out⟩
         ·
          rw [if_neg c35] at H
          have c35b0 : (t121 == 0) = false := beq_eq_false_iff_ne.mpr c35
          have c35b1 : (t121 != 0) = true := bne_iff_ne.mpr c35
          simp only [Option.some.injEq, Prod.mk.injEq] at H
          obtain ⟨rfl, rfl, rfl⟩ := H
          go_wp2_with (first | ((with_reducible refine gate_callee (f := 63) rfl ?_); refine goesL_ (some 46) rfl rfl Tryz.func63 (by kernel_rfl) rfl #[.string ((zba l0_1 (ji15)).f4)] rfl (by (try simp only [List.map_toArray, List.map_cons, List.map_nil]); first | done | (simp only [hji15]; rfl) | rfl | (simp only [List.length_drop, List.length_take]; rfl)) ?_; (with_reducible refine (zab.calls kj18 ((zba l0_1 (ji15)).f4) t119 t120 t121 _ A34.out).mono ?_); rintro e w49 ⟨rfl, hb⟩; refine ⟨_, rfl, ?_⟩; have n0_ := mk0 (blk_below (obk BK111.out) hb); have n1_ := mk0 (blk_below (obk BK112.out) hb); have n2_ := mk0 (blk_below (obk BK118.out) hb); have n3_ := mk0 (bst HB.out hb); clear BK111; clear BK112; clear BK118; clear HB; have BK111 := n0_; have BK112 := n1_; have BK118 := n2_; have HB := n3_; clear n0_ n1_ n2_ n3_; (try clear hb); have hnb50 := NB118_111.out; have hnc50 := NB111_118.out; have hnb51 := NB118_112.out; have hnc51 := NB112_118.out; obtain ⟨hcz52_0, hcz52_1, hfz52_0, hfz52_1⟩ := blk2 BK118.out; have hnb53 := NB112_111.out; have hnc53 := NB111_112.out; obtain ⟨hcz54_0, hcz54_1, hfz54_0, hfz54_1⟩ := blk2 BK112.out))
          refine bodyPost_ret (results_ct rfl _ _ gb112 46 #[.int .i64 0, .int .u64 0] (0, 0) _ rfl (by exact obk (blk_put (obk (blk_put (obk (blkf (obk (blkf (obk BK112.out) NB112_118.out)) NB112_118.out)) 0 _ rfl)) 1 _ rfl)) Tryz.underlying46 rfl (by kernel_rfl)) rfl ?_
          exact ⟨by first | rfl | (simp [zbe, zbf] <;> rfl) | (simp only [← hji15]; first | rfl | (simp [zbe, zbf] <;> rfl)) | (simp [*, zbe, zbf] <;> rfl) | (simp [zbe, zbf]; exact isEmpty_ne _), by exact bok HB.out⟩
     ·
      rw [if_neg c17] at H
      exact absurd H (by simp)
    ·
     rw [if_neg c16] at H
     exact absurd H (by simp)

end Go.Proofs.YtcaegaljhogbjaaGreatDoor.Y
