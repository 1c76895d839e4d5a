/- What Go functions compute, as plain Lean functions, and that the machine comes to just that: written by wip/tools/printx.py (my run of the printer, with contracts of mine beside it). -/
import Derived.Test.YtpalncojmknlbaaDoorDefNode
import Derived.Test.YtpalncojmknlbaaDoorDefWrite
import Derived.Test.YtpalncojmknlbaaDoorAx2
import Derived.Test.YtpalncojmknlbaaDoorYx0
import Derived.Test.YtpalncojmknlbaaDoorYx3
import Derived.Test.YtpalncojmknlbaaDoorYx4
import Derived.Test.YtpalncojmknlbaaDoorYx5
import Derived.Test.YtpalncojmknlbaaDoorYx15
namespace Go.Proofs.YtpalncojmknlbaaDoor.Y
open Go.Proofs.YtpalncojmknlbaaDoor.Ext Go.Proofs.YtpalncojmknlbaaDoor.A Go.RowKit Go.Proofs.YtpalncojmknlbaaDoorW.PrintWords Go.Proofs.YtpalncojmknlbaaDoorW.PrintLast Go.Proofs.YtpalncojmknlbaaDoorW.PrintMore
attribute [local go_sem] max2_int min2_int max_two min_two max_three min_three max_four min_four   -- for this text's walks alone
set_option linter.unusedVariables false
set_option linter.unusedSimpArgs false

/-! ### remontoirlaw17_DefBack: function 4 -/
mutual
def remontoirlaw17_DefBack.j0 : Nat → ByteArray → Bool → ByteArray → List (S40) → List (S42) → Option (Bool)
 | 0, _, _, _, _, _ => none
 | k + 1, x1, x24, x358000, x358001, x358002 => if x24 = true then ((remontoirlaw17_wakes.f k).bind fun t359 => (some t359)) else ((def_Print.f k x358000 x358001 x358002).bind fun bt360 => (if bt360.2 = true then ((def_Parse.f k bt360.1).bind fun bt362 => ((words_Lines.f k bt360.1).bind fun bt372 => (if bt362.2.2.2.2 = 0 then (if bt362.2.2.2.1 = 0 then ((remontoirkeep_Defs.f k bt362.1 bt362.2.1 bt362.2.2.1 x358000 x358001 x358002).bind fun t376 => (if t376 = true then (if bt372.2 = 0 then (if (bt372.1.length : Int) = (wrap64 ((wrap64 (1 + (x358001.length : Int))) + (x358002.length : Int))) then (remontoirlaw17_DefBack.j1 k x1) else (some false)) else (some false)) else (some false))) else (some false)) else (some false)))) else (remontoirlaw17_DefBack.j1 k x1)))
def remontoirlaw17_DefBack.j1 : Nat → ByteArray → Option (Bool)
 | 0, _ => none
 | k + 1, x1 => (def_Parse.f k x1).bind fun bt377 => (if bt377.2.2.2.2 = 0 then ((def_Print.f k bt377.1 bt377.2.1 bt377.2.2.1).bind fun bt387 => (if bt387.2 = true then (if bt387.1.toList = x1.toList then ((remontoirlaw17_wakes.f k).bind fun t389 => (some t389)) else (some false)) else (some false))) else ((remontoirlaw17_wakes.f k).bind fun t390 => (some t390)))
end
def remontoirlaw17_DefBack.f (k : Nat) (a0_0 : ByteArray) (l0_1 : List (S40)) (l0_2 : List (S42)) (a1 : ByteArray) : Option (Bool) := (remontoirkeep_LightDef.f k a0_0 l0_1 l0_2).bind fun t358 => (if t358 = true then (remontoirlaw17_DefBack.j0 k a1 (decide ((a1.size : Int) > 12000)) a0_0 l0_1 l0_2) else (remontoirlaw17_DefBack.j0 k a1 true a0_0 l0_1 l0_2))
theorem remontoirlaw17_DefBack.mono_l : ∀ k, (∀ y0 y1 y2 y3 y4, LeO (remontoirlaw17_DefBack.j0 k y0 y1 y2 y3 y4) (remontoirlaw17_DefBack.j0 (k + 1) y0 y1 y2 y3 y4)) ∧ (∀ y0, LeO (remontoirlaw17_DefBack.j1 k y0) (remontoirlaw17_DefBack.j1 (k + 1) y0))
 | 0 => ⟨fun _ _ _ _ _ r h => by simp [remontoirlaw17_DefBack.j0] at h, fun _ r h => by simp [remontoirlaw17_DefBack.j1] at h⟩
 | k + 1 => by
  obtain ⟨ih0, ih1⟩ := remontoirlaw17_DefBack.mono_l k
  refine ⟨?_, ?_⟩
  ·
   intro y0 y1 y2 y3 y4
   unfold remontoirlaw17_DefBack.j0
   repeat' first
   | (with_reducible exact ih0 _ _ _ _ _)
   | (with_reducible exact ih1 _)
   | (with_reducible exact def_Parse.mono _ _)
   | (with_reducible exact def_Print.mono _ _ _ _)
   | (with_reducible exact remontoirkeep_Defs.mono _ _ _ _ _ _ _)
   | (with_reducible exact remontoirkeep_LightDef.mono _ _ _ _)
   | (with_reducible exact remontoirlaw17_wakes.mono _)
   | (with_reducible exact words_Lines.mono _ _)
   | (with_reducible exact LeO.refl _)
   | (with_reducible exact LeO.none _)
   | (with_reducible refine LeO.ite ?_ ?_)
   | (with_reducible refine LeO.bind ?_ (fun _ => ?_))
   | exact ih0 _ _ _ _ _
   | exact ih1 _
   | exact def_Parse.mono _ _
   | exact def_Print.mono _ _ _ _
   | exact remontoirkeep_Defs.mono _ _ _ _ _ _ _
   | exact remontoirkeep_LightDef.mono _ _ _ _
   | exact remontoirlaw17_wakes.mono _
   | exact words_Lines.mono _ _
   | exact LeO.none _
   | refine LeO.ite ?_ ?_
   | refine LeO.bind ?_ (fun _ => ?_)
  ·
   intro y0
   unfold remontoirlaw17_DefBack.j1
   repeat' first
   | (with_reducible exact ih0 _ _ _ _ _)
   | (with_reducible exact ih1 _)
   | (with_reducible exact def_Parse.mono _ _)
   | (with_reducible exact def_Print.mono _ _ _ _)
   | (with_reducible exact remontoirkeep_Defs.mono _ _ _ _ _ _ _)
   | (with_reducible exact remontoirkeep_LightDef.mono _ _ _ _)
   | (with_reducible exact remontoirlaw17_wakes.mono _)
   | (with_reducible exact words_Lines.mono _ _)
   | (with_reducible exact LeO.refl _)
   | (with_reducible exact LeO.none _)
   | (with_reducible refine LeO.ite ?_ ?_)
   | (with_reducible refine LeO.bind ?_ (fun _ => ?_))
   | exact ih0 _ _ _ _ _
   | exact ih1 _
   | exact def_Parse.mono _ _
   | exact def_Print.mono _ _ _ _
   | exact remontoirkeep_Defs.mono _ _ _ _ _ _ _
   | exact remontoirkeep_LightDef.mono _ _ _ _
   | exact remontoirlaw17_wakes.mono _
   | exact words_Lines.mono _ _
   | exact LeO.none _
   | refine LeO.ite ?_ ?_
   | refine LeO.bind ?_ (fun _ => ?_)
theorem remontoirlaw17_DefBack.mono : ∀ a0 a1 a2 a3 k, LeO (remontoirlaw17_DefBack.f k a0 a1 a2 a3) (remontoirlaw17_DefBack.f (k + 1) a0 a1 a2 a3) := by
 intro a0 a1 a2 a3 k
 obtain ⟨ih0, ih1⟩ := remontoirlaw17_DefBack.mono_l k
 unfold remontoirlaw17_DefBack.f
 repeat' first
   | (with_reducible exact ih0 _ _ _ _ _)
   | (with_reducible exact ih1 _)
   | (with_reducible exact def_Parse.mono _ _)
   | (with_reducible exact def_Print.mono _ _ _ _)
   | (with_reducible exact remontoirkeep_Defs.mono _ _ _ _ _ _ _)
   | (with_reducible exact remontoirkeep_LightDef.mono _ _ _ _)
   | (with_reducible exact remontoirlaw17_wakes.mono _)
   | (with_reducible exact words_Lines.mono _ _)
   | (with_reducible exact LeO.refl _)
   | (with_reducible exact LeO.none _)
   | (with_reducible refine LeO.ite ?_ ?_)
   | (with_reducible refine LeO.bind ?_ (fun _ => ?_))
   | exact ih0 _ _ _ _ _
   | exact ih1 _
   | exact def_Parse.mono _ _
   | exact def_Print.mono _ _ _ _
   | exact remontoirkeep_Defs.mono _ _ _ _ _ _ _
   | exact remontoirkeep_LightDef.mono _ _ _ _
   | exact remontoirlaw17_wakes.mono _
   | exact words_Lines.mono _ _
   | exact LeO.none _
   | refine LeO.ite ?_ ?_
   | refine LeO.bind ?_ (fun _ => ?_)
set_option maxHeartbeats 8000000 in
set_option maxRecDepth 100000 in
theorem remontoirlaw17_DefBack.calls (k : Nat) (a0_0 : ByteArray) (A0_1 : Option Addr) (c0_1 : Nat) (l0_1 : List (S40)) (A0_2 : Option Addr) (c0_2 : Nat) (l0_2 : List (S42)) (a1 : ByteArray) (r : Bool) (w : World) (hTab : Tab w) (hr0_1 : Kd.C k40 w A0_1 l0_1.length l0_1) (hc0_1 : l0_1.length ≤ c0_1) (hr0_2 : Kd.C k42 w A0_2 l0_2.length l0_2) (hc0_2 : l0_2.length ≤ c0_2) (hr_ : r = true) (h : remontoirlaw17_DefBack.f k a0_0 l0_1 l0_2 a1 = some r) :
  Calls Tryd.prog 4 #[.agg #[.string a0_0, .slice A0_1 l0_1.length c0_1, .slice A0_2 l0_2.length c0_2], .string a1] w fun e w' => e = .returned (.bool r) ∧ Below w.heap.size w w' := by
 have hu25 := Tryd.underlying25
 have HR0_1 := Aside0.mk hr0_1
 have HC0_1 := Aside0.mk hc0_1
 clear hr0_1 hc0_1
 have HR0_2 := Aside0.mk hr0_2
 have HC0_2 := Aside0.mk hc0_2
 clear hr0_2 hc0_2
 have HB := Aside0.mk (Below.refl w.heap.size w)
 have H : ((remontoirkeep_LightDef.f k a0_0 l0_1 l0_2).bind fun t358 => (if t358 = true then (remontoirlaw17_DefBack.j0 k a1 (decide ((a1.size : Int) > 12000)) a0_0 l0_1 l0_2) else (remontoirlaw17_DefBack.j0 k a1 true a0_0 l0_1 l0_2))) = some r := h
 clear h
 have HC3 := Aside0.mk H
 clear H
 go_enter Tryd.func4, Tryd.ntmps4
 go_upto_region 1 with (first | ((with_reducible refine gate_dst (N := 2) rfl ?_); (try (refine gate_guard (by rfl) ?_; dsimp only)); refine box_event ?hg (N := 2) ?hd (cs := #[.string a0_0, .slice A0_1 l0_1.length c0_1, .slice A0_2 l0_2.length c0_2]) (t := 25) ?hr ?_; (case hd => rfl); (case hg => rfl); (case hr => first | (go_simp; done) | (go_simp; rfl)); intro gb357 hg w4 hbox hb; have n0_ := Aside0.mk (below_step (by repeat (first | (with_reducible first | exact HB.out | apply below_alloc | apply pw_below_drewN | apply below_drew1) | exact HB.out)) hb); have n1_ := Aside0.mk (hbox); have n2_ := Aside0.mk ((by rw [hg]; exact (below_size (by repeat (first | (with_reducible first | exact HB.out | apply below_alloc | apply pw_below_drewN | apply below_drew1) | exact HB.out))) : w.heap.size ≤ gb357)); have n3_ := Aside0.mk ((by rw [hg]; exact (below_size (by repeat (first | (with_reducible first | exact HB.out | apply below_alloc | apply pw_below_drewN | apply below_drew1) | exact HB.out))) : w.heap.size ≤ gb357)); clear HB; have HB := n0_; have BK357 := n1_; have GW357 := n2_; have GE357 := n3_; clear n0_ n1_ n2_ n3_; clear hb hbox hg))
 (try simp only [Act.put, List.setIfInBounds_toArray, List.set_cons_zero, List.set_cons_succ])
 go_cut [24] (fun v24 wc => ∃ (kq : Nat) (x24_2 : Bool), v24 = .bool x24_2 ∧ Aside0 (remontoirlaw17_DefBack.j0 kq a1 x24_2 a0_0 l0_1 l0_2 = some r) ∧ Aside0 (kq ≤ k) ∧ Aside0 (wc.heap[gb357]? = some (.cells #[.string a0_0, (.slice A0_1 l0_1.length c0_1), (.slice A0_2 l0_2.length c0_2)] 25 (0, 0))) ∧ Aside0 (Below w.heap.size w wc))
 case first =>
  have H := HC3.out
  clear HC3
  replace H := Option.bind_eq_some_iff.mp H
  obtain ⟨t358, A50, H⟩ := H
  replace H : (if t358 = true then (remontoirlaw17_DefBack.j0 k a1 (decide ((a1.size : Int) > 12000)) a0_0 l0_1 l0_2) else (remontoirlaw17_DefBack.j0 k a1 true a0_0 l0_1 l0_2)) = some r := H
  have A5 := Aside0.mk A50
  clear A50
  by_cases c6 : t358 = true
  ·
   subst c6
   have H1 : (remontoirlaw17_DefBack.j0 k a1 (decide ((a1.size : Int) > 12000)) a0_0 l0_1 l0_2) = some r := by rw [if_pos rfl] at H; exact H
   clear H
   have H := H1
   clear H1
   have H' := Aside0.mk H
   clear H
   have hcz7_0 : w4.cell? ⟨gb357, 0, none⟩ = some (.string a0_0) := (blk_cell BK357.out 0).trans rfl
   have hcz7_1 : w4.cell? ⟨gb357, 1, none⟩ = some (.slice A0_1 l0_1.length c0_1) := (blk_cell BK357.out 1).trans rfl
   have hcz7_2 : w4.cell? ⟨gb357, 2, none⟩ = some (.slice A0_2 l0_2.length c0_2) := (blk_cell BK357.out 2).trans rfl
   have hfz7_0 := blk_frozen BK357.out 0
   have hfz7_1 := blk_frozen BK357.out 1
   have hfz7_2 := blk_frozen BK357.out 2
   go_wp2_with (first | ((with_reducible refine gate_callee (f := 8) rfl ?_); refine goesL_ (some 18) rfl rfl Tryd.func8 (by kernel_rfl) rfl #[.agg #[.string a0_0, .slice A0_1 l0_1.length c0_1, .slice A0_2 l0_2.length c0_2]] rfl (by (try simp only [List.map_toArray, List.map_cons, List.map_nil]); first | done | rfl | (simp only [List.length_drop, List.length_take]; rfl)) ?_; (with_reducible refine (remontoirkeep_LightDef.calls k a0_0 _ _ l0_1 _ _ l0_2 true _ ?side1 ?side2 ?side3 ?side4 A5.out).mono ?_); (case side1 => repeat (first | exact (Kd.C_below HR0_1.out HB.out) | (with_reducible refine Kd.C_alloc ?_ _) | (with_reducible refine Kd.C_drewN ?_ _) | (with_reducible refine Kd.C_drew ?_))); (case side2 => exact HC0_1.out); (case side3 => repeat (first | exact (Kd.C_below HR0_2.out HB.out) | (with_reducible refine Kd.C_alloc ?_ _) | (with_reducible refine Kd.C_drewN ?_ _) | (with_reducible refine Kd.C_drew ?_))); (case side4 => exact HC0_2.out); rintro e w8 ⟨rfl, hb⟩; refine ⟨_, rfl, ?_⟩; have n0_ := Aside0.mk (blk_below (g := gb357) (o := .cells #[.string a0_0, .slice A0_1 l0_1.length c0_1, .slice A0_2 l0_2.length c0_2] 25 (0, 0)) (by (with_reducible repeat (first | refine blk_drewN ?_ _ | refine blk_drew ?_ | refine blk_alloc ?_ _)); exact BK357.out) hb); have n1_ := Aside0.mk (below_step (by repeat (first | (with_reducible first | exact HB.out | apply below_alloc | apply pw_below_drewN | apply below_drew1 | refine below_set ?_ GE357.out) | exact HB.out)) hb); clear BK357; clear HB; have BK357 := n0_; have HB := n1_; clear n0_ n1_; (try clear hb); (try clear hb2); (try clear hk); (try clear hi)))
   go_meet
   case rel => exact ⟨_, (decide ((a1.size : Int) > 12000)), (by first | rfl | (simp; done) | (simp [*]; done)), H', ⟨by first | omega | exact Nat.le_refl _⟩, ⟨by (with_reducible repeat (first | refine blk_drewN ?_ _ | refine blk_drew ?_ | refine blk_alloc ?_ _)); exact BK357.out⟩, ⟨by repeat (first | (with_reducible first | exact HB.out | apply below_alloc | apply pw_below_drewN | apply below_drew1 | refine below_set ?_ GE357.out) | exact HB.out)⟩⟩
  ·
   replace c6 := Bool.eq_false_iff.mpr c6
   subst c6
   have H1 : (remontoirlaw17_DefBack.j0 k a1 true a0_0 l0_1 l0_2) = some r := by rw [if_neg (show ¬ (false = true) by decide)] at H; exact H
   clear H
   have H := H1
   clear H1
   have H' := Aside0.mk H
   clear H
   have hcz9_0 : w4.cell? ⟨gb357, 0, none⟩ = some (.string a0_0) := (blk_cell BK357.out 0).trans rfl
   have hcz9_1 : w4.cell? ⟨gb357, 1, none⟩ = some (.slice A0_1 l0_1.length c0_1) := (blk_cell BK357.out 1).trans rfl
   have hcz9_2 : w4.cell? ⟨gb357, 2, none⟩ = some (.slice A0_2 l0_2.length c0_2) := (blk_cell BK357.out 2).trans rfl
   have hfz9_0 := blk_frozen BK357.out 0
   have hfz9_1 := blk_frozen BK357.out 1
   have hfz9_2 := blk_frozen BK357.out 2
   go_wp2_with (first | ((with_reducible refine gate_callee (f := 8) rfl ?_); refine goesL_ (some 18) rfl rfl Tryd.func8 (by kernel_rfl) rfl #[.agg #[.string a0_0, .slice A0_1 l0_1.length c0_1, .slice A0_2 l0_2.length c0_2]] rfl (by (try simp only [List.map_toArray, List.map_cons, List.map_nil]); first | done | rfl | (simp only [List.length_drop, List.length_take]; rfl)) ?_; (with_reducible refine (remontoirkeep_LightDef.calls k a0_0 _ _ l0_1 _ _ l0_2 false _ ?side1 ?side2 ?side3 ?side4 A5.out).mono ?_); (case side1 => repeat (first | exact (Kd.C_below HR0_1.out HB.out) | (with_reducible refine Kd.C_alloc ?_ _) | (with_reducible refine Kd.C_drewN ?_ _) | (with_reducible refine Kd.C_drew ?_))); (case side2 => exact HC0_1.out); (case side3 => repeat (first | exact (Kd.C_below HR0_2.out HB.out) | (with_reducible refine Kd.C_alloc ?_ _) | (with_reducible refine Kd.C_drewN ?_ _) | (with_reducible refine Kd.C_drew ?_))); (case side4 => exact HC0_2.out); rintro e w10 ⟨rfl, hb⟩; refine ⟨_, rfl, ?_⟩; have n0_ := Aside0.mk (blk_below (g := gb357) (o := .cells #[.string a0_0, .slice A0_1 l0_1.length c0_1, .slice A0_2 l0_2.length c0_2] 25 (0, 0)) (by (with_reducible repeat (first | refine blk_drewN ?_ _ | refine blk_drew ?_ | refine blk_alloc ?_ _)); exact BK357.out) hb); have n1_ := Aside0.mk (below_step (by repeat (first | (with_reducible first | exact HB.out | apply below_alloc | apply pw_below_drewN | apply below_drew1 | refine below_set ?_ GE357.out) | exact HB.out)) hb); clear BK357; clear HB; have BK357 := n0_; have HB := n1_; clear n0_ n1_; (try clear hb); (try clear hb2); (try clear hk); (try clear hi)))
   go_meet
   case rel => exact ⟨_, (true), (by first | rfl | (simp; done) | (simp [*]; done)), H', ⟨by first | omega | exact Nat.le_refl _⟩, ⟨by (with_reducible repeat (first | refine blk_drewN ?_ _ | refine blk_drew ?_ | refine blk_alloc ?_ _)); exact BK357.out⟩, ⟨by repeat (first | (with_reducible first | exact HB.out | apply below_alloc | apply pw_below_drewN | apply below_drew1 | refine below_set ?_ GE357.out) | exact HB.out)⟩⟩
 case rest =>
  clear HC3
  try clear p2
  try clear c4
  try clear c6
  try clear c8
  try clear hcz7_0
  try clear hcz7_1
  try clear hcz7_2
  try clear hcz9_0
  try clear hcz9_1
  try clear hcz9_2
  try clear hfz7_0
  try clear hfz7_1
  try clear hfz7_2
  try clear hfz9_0
  try clear hfz9_1
  try clear hfz9_2
  obtain ⟨kq, x24_2, rfl, HA, HJ2, BK357, HB⟩ := hcut
  cases kq with
  | zero => exact absurd HA.out (by simp [remontoirlaw17_DefBack.j0])
  | succ kj2 =>
   have H := HA.out
   clear HA
   simp only [remontoirlaw17_DefBack.j0] at H
   by_cases c11 : x24_2 = true
   ·
    subst c11
    have H1 : ((remontoirlaw17_wakes.f kj2).bind fun t359 => (some t359)) = some r := by rw [if_pos rfl] at H; exact H
    clear H
    have H := H1
    clear H1
    replace H := Option.bind_eq_some_iff.mp H
    obtain ⟨t359, A120, H⟩ := H
    replace H : (some t359) = some r := H
    have A12 := Aside0.mk A120
    clear A120
    obtain rfl := Option.some.inj H
    go_wp2_with (first | ((with_reducible refine gate_callee (f := 9) rfl ?_); refine goesL_ (some 25) rfl rfl Tryd.func9 (by kernel_rfl) rfl #[] rfl (by (try simp only [List.map_toArray, List.map_cons, List.map_nil]); first | done | rfl | (simp only [List.length_drop, List.length_take]; rfl)) ?_; (with_reducible refine (remontoirlaw17_wakes.calls kj2  t359 _ (Tab.below hTab (by repeat (first | exact HB.out | apply below_alloc | apply pw_below_drewN | apply below_drew1 | (refine below_set ?_ (Aside0.out ?_) <;> (first | assumption | skip)))))  A12.out).mono ?_); rintro e w13 ⟨rfl, hb⟩; refine ⟨_, rfl, ?_⟩; have n0_ := Aside0.mk (blk_below (g := gb357) (o := .cells #[.string a0_0, .slice A0_1 l0_1.length c0_1, .slice A0_2 l0_2.length c0_2] 25 (0, 0)) (by (with_reducible repeat (first | refine blk_drewN ?_ _ | refine blk_drew ?_ | refine blk_alloc ?_ _)); exact BK357.out) hb); have n1_ := Aside0.mk (below_step (by repeat (first | (with_reducible first | exact HB.out | apply below_alloc | apply pw_below_drewN | apply below_drew1 | refine below_set ?_ GE357.out) | exact HB.out)) hb); clear BK357; clear HB; have BK357 := n0_; have HB := n1_; clear n0_ n1_; (try clear hb); (try clear hb2); (try clear hk); (try clear hi)))
    go_ret
    exact ⟨by first | rfl | (simp [errW_none, errW_some] <;> rfl) | (simp [*, errW_none, errW_some] <;> rfl), by repeat (first | (with_reducible first | exact HB.out | apply below_alloc | apply pw_below_drewN | apply below_drew1 | refine below_set ?_ GE357.out) | exact HB.out)⟩
   ·
    replace c11 := Bool.eq_false_iff.mpr c11
    subst c11
    have H1 : ((def_Print.f kj2 a0_0 l0_1 l0_2).bind fun bt360 => (if bt360.2 = true then ((def_Parse.f kj2 bt360.1).bind fun bt362 => ((words_Lines.f kj2 bt360.1).bind fun bt372 => (if bt362.2.2.2.2 = 0 then (if bt362.2.2.2.1 = 0 then ((remontoirkeep_Defs.f kj2 bt362.1 bt362.2.1 bt362.2.2.1 a0_0 l0_1 l0_2).bind fun t376 => (if t376 = true then (if bt372.2 = 0 then (if (bt372.1.length : Int) = (wrap64 ((wrap64 (1 + (l0_1.length : Int))) + (l0_2.length : Int))) then (remontoirlaw17_DefBack.j1 kj2 a1) else (some false)) else (some false)) else (some false))) else (some false)) else (some false)))) else (remontoirlaw17_DefBack.j1 kj2 a1))) = some r := by rw [if_neg (show ¬ (false = true) by decide)] at H; exact H
    clear H
    have H := H1
    clear H1
    replace H := Option.bind_eq_some_iff.mp H
    obtain ⟨⟨t360, t361⟩, A140, H⟩ := H
    replace H : (if t361 = true then ((def_Parse.f kj2 t360).bind fun bt362 => ((words_Lines.f kj2 t360).bind fun bt372 => (if bt362.2.2.2.2 = 0 then (if bt362.2.2.2.1 = 0 then ((remontoirkeep_Defs.f kj2 bt362.1 bt362.2.1 bt362.2.2.1 a0_0 l0_1 l0_2).bind fun t376 => (if t376 = true then (if bt372.2 = 0 then (if (bt372.1.length : Int) = (wrap64 ((wrap64 (1 + (l0_1.length : Int))) + (l0_2.length : Int))) then (remontoirlaw17_DefBack.j1 kj2 a1) else (some false)) else (some false)) else (some false))) else (some false)) else (some false)))) else (remontoirlaw17_DefBack.j1 kj2 a1)) = some r := H
    have A14 := Aside0.mk A140
    clear A140
    have HC15 := Aside0.mk H
    clear H
    have hcz16_0 : wc.cell? ⟨gb357, 0, none⟩ = some (.string a0_0) := (blk_cell BK357.out 0).trans rfl
    have hcz16_1 : wc.cell? ⟨gb357, 1, none⟩ = some (.slice A0_1 l0_1.length c0_1) := (blk_cell BK357.out 1).trans rfl
    have hcz16_2 : wc.cell? ⟨gb357, 2, none⟩ = some (.slice A0_2 l0_2.length c0_2) := (blk_cell BK357.out 2).trans rfl
    have hfz16_0 := blk_frozen BK357.out 0
    have hfz16_1 := blk_frozen BK357.out 1
    have hfz16_2 := blk_frozen BK357.out 2
    go_upto_if 31 with (first | ((with_reducible refine gate_callee (f := 10) rfl ?_); refine goesL_ (some 28) rfl rfl Tryd.func10 (by kernel_rfl) rfl #[.agg #[.string a0_0, .slice A0_1 l0_1.length c0_1, .slice A0_2 l0_2.length c0_2]] rfl (by (try simp only [List.map_toArray, List.map_cons, List.map_nil]); first | done | rfl | (simp only [List.length_drop, List.length_take]; rfl)) ?_; (with_reducible refine (def_Print.calls kj2 a0_0 _ _ l0_1 _ _ l0_2 t360 t361 _ (Tab.below hTab (by repeat (first | exact HB.out | apply below_alloc | apply pw_below_drewN | apply below_drew1 | (refine below_set ?_ (Aside0.out ?_) <;> (first | assumption | skip)))))  ?side1 ?side2 ?side3 ?side4 A14.out).mono ?_); (case side1 => repeat (first | exact (Kd.C_below HR0_1.out HB.out) | (with_reducible refine Kd.C_alloc ?_ _) | (with_reducible refine Kd.C_drewN ?_ _) | (with_reducible refine Kd.C_drew ?_))); (case side2 => exact HC0_1.out); (case side3 => repeat (first | exact (Kd.C_below HR0_2.out HB.out) | (with_reducible refine Kd.C_alloc ?_ _) | (with_reducible refine Kd.C_drewN ?_ _) | (with_reducible refine Kd.C_drew ?_))); (case side4 => exact HC0_2.out); rintro e w17 ⟨rfl, hb⟩; refine ⟨_, rfl, ?_⟩; have n0_ := Aside0.mk (blk_below (g := gb357) (o := .cells #[.string a0_0, .slice A0_1 l0_1.length c0_1, .slice A0_2 l0_2.length c0_2] 25 (0, 0)) (by (with_reducible repeat (first | refine blk_drewN ?_ _ | refine blk_drew ?_ | refine blk_alloc ?_ _)); exact BK357.out) hb); have n1_ := Aside0.mk (below_step (by repeat (first | (with_reducible first | exact HB.out | apply below_alloc | apply pw_below_drewN | apply below_drew1 | refine below_set ?_ GE357.out) | exact HB.out)) hb); clear BK357; clear HB; have BK357 := n0_; have HB := n1_; clear n0_ n1_; (try clear hb); (try clear hb2); (try clear hk); (try clear hi)))
    (try simp only [Act.put, List.setIfInBounds_toArray, List.set_cons_zero, List.set_cons_succ])
    go_cut [] (fun wc => ∃ (kq : Nat), Aside0 (remontoirlaw17_DefBack.j1 kq a1 = some r) ∧ Aside0 (kq ≤ kj2) ∧ Aside0 (wc.heap[gb357]? = some (.cells #[.string a0_0, (.slice A0_1 l0_1.length c0_1), (.slice A0_2 l0_2.length c0_2)] 25 (0, 0))) ∧ Aside0 (Below w.heap.size w wc))
    case first =>
     have H := HC15.out
     clear HC15
     by_cases c18 : t361 = true
     ·
      subst c18
      have H1 : ((def_Parse.f kj2 t360).bind fun bt362 => ((words_Lines.f kj2 t360).bind fun bt372 => (if bt362.2.2.2.2 = 0 then (if bt362.2.2.2.1 = 0 then ((remontoirkeep_Defs.f kj2 bt362.1 bt362.2.1 bt362.2.2.1 a0_0 l0_1 l0_2).bind fun t376 => (if t376 = true then (if bt372.2 = 0 then (if (bt372.1.length : Int) = (wrap64 ((wrap64 (1 + (l0_1.length : Int))) + (l0_2.length : Int))) then (remontoirlaw17_DefBack.j1 kj2 a1) else (some false)) else (some false)) else (some false))) else (some false)) else (some false)))) = some r := by rw [if_pos rfl] at H; exact H
      clear H
      have H := H1
      clear H1
      replace H := Option.bind_eq_some_iff.mp H
      obtain ⟨⟨t362, t363, t366, t369, t370⟩, A190, H⟩ := H
      replace H : ((words_Lines.f kj2 t360).bind fun bt372 => (if t370 = 0 then (if t369 = 0 then ((remontoirkeep_Defs.f kj2 t362 t363 t366 a0_0 l0_1 l0_2).bind fun t376 => (if t376 = true then (if bt372.2 = 0 then (if (bt372.1.length : Int) = (wrap64 ((wrap64 (1 + (l0_1.length : Int))) + (l0_2.length : Int))) then (remontoirlaw17_DefBack.j1 kj2 a1) else (some false)) else (some false)) else (some false))) else (some false)) else (some false))) = some r := H
      have A19 := Aside0.mk A190
      clear A190
      replace H := Option.bind_eq_some_iff.mp H
      obtain ⟨⟨t372, t373⟩, A200, H⟩ := H
      replace H : (if t370 = 0 then (if t369 = 0 then ((remontoirkeep_Defs.f kj2 t362 t363 t366 a0_0 l0_1 l0_2).bind fun t376 => (if t376 = true then (if t373 = 0 then (if (t372.length : Int) = (wrap64 ((wrap64 (1 + (l0_1.length : Int))) + (l0_2.length : Int))) then (remontoirlaw17_DefBack.j1 kj2 a1) else (some false)) else (some false)) else (some false))) else (some false)) else (some false)) = some r := H
      have A20 := Aside0.mk A200
      clear A200
      by_cases c21 : t370 = 0
      ·
       rw [if_pos c21] at H
       have c21b0 : (t370 == 0) = true := beq_iff_eq.mpr c21
       have c21b1 : (t370 != 0) = false := bne_eq_false_iff_eq.mpr c21
       clear c21
       (first | rw [c21b0] | (simp only [i64_w, i32_w]; rw [c21b0]) | skip)
       by_cases c22 : t369 = 0
       ·
        rw [if_pos c22] at H
        have c22b0 : (t369 == 0) = true := beq_iff_eq.mpr c22
        have c22b1 : (t369 != 0) = false := bne_eq_false_iff_eq.mpr c22
        clear c22
        replace H := Option.bind_eq_some_iff.mp H
        obtain ⟨t376, A230, H⟩ := H
        replace H : (if t376 = true then (if t373 = 0 then (if (t372.length : Int) = (wrap64 ((wrap64 (1 + (l0_1.length : Int))) + (l0_2.length : Int))) then (remontoirlaw17_DefBack.j1 kj2 a1) else (some false)) else (some false)) else (some false)) = some r := H
        have A23 := Aside0.mk A230
        clear A230
        by_cases c24 : t376 = true
        ·
         subst c24
         have H1 : (if t373 = 0 then (if (t372.length : Int) = (wrap64 ((wrap64 (1 + (l0_1.length : Int))) + (l0_2.length : Int))) then (remontoirlaw17_DefBack.j1 kj2 a1) else (some false)) else (some false)) = some r := by rw [if_pos rfl] at H; exact H
         clear H
         have H := H1
         clear H1
         by_cases c25 : t373 = 0
         ·
          rw [if_pos c25] at H
          have c25b0 : (t373 == 0) = true := beq_iff_eq.mpr c25
          have c25b1 : (t373 != 0) = false := bne_eq_false_iff_eq.mpr c25
          clear c25
          by_cases c26 : (t372.length : Int) = (wrap64 ((wrap64 (1 + (l0_1.length : Int))) + (l0_2.length : Int)))
          ·
           rw [if_pos c26] at H
           have c26b0 : ((t372.length : Int) == (wrap64 ((wrap64 (1 + (l0_1.length : Int))) + (l0_2.length : Int)))) = true := beq_iff_eq.mpr c26
           have c26b1 : ((t372.length : Int) != (wrap64 ((wrap64 (1 + (l0_1.length : Int))) + (l0_2.length : Int)))) = false := bne_eq_false_iff_eq.mpr c26
           clear c26
           have H' := Aside0.mk H
           clear H
           go_wp2_with (first | ((with_reducible refine gate_callee (f := 12) rfl ?_); refine goesL_ (some 34) rfl rfl Tryd.func12 (by kernel_rfl) rfl #[.string t360] rfl (by (try simp only [List.map_toArray, List.map_cons, List.map_nil]); first | done | rfl | (simp only [List.length_drop, List.length_take]; rfl)) ?_; (with_reducible refine (def_Parse.calls kj2 t360 t362 t363 t366 t369 t370 _ A19.out).mono ?_); rintro e w27 ⟨v364, v367, rfl, ho0, ho1, hb⟩; refine ⟨_, rfl, ?_⟩; have n0_ := Aside0.mk (Kd.R_lower ho0 (below_size (by repeat (first | (with_reducible first | exact HB.out | apply below_alloc | apply pw_below_drewN | apply below_drew1 | refine below_set ?_ GE357.out) | exact HB.out)))); have n1_ := Aside0.mk (Kd.R_lower ho1 (below_size (by repeat (first | (with_reducible first | exact HB.out | apply below_alloc | apply pw_below_drewN | apply below_drew1 | refine below_set ?_ GE357.out) | exact HB.out)))); have n2_ := Aside0.mk (blk_below (g := gb357) (o := .cells #[.string a0_0, .slice A0_1 l0_1.length c0_1, .slice A0_2 l0_2.length c0_2] 25 (0, 0)) (by (with_reducible repeat (first | refine blk_drewN ?_ _ | refine blk_drew ?_ | refine blk_alloc ?_ _)); exact BK357.out) hb); have n3_ := Aside0.mk (below_step (by repeat (first | (with_reducible first | exact HB.out | apply below_alloc | apply pw_below_drewN | apply below_drew1 | refine below_set ?_ GE357.out) | exact HB.out)) hb); clear BK357; clear HB; have HO365 := n0_; have HO368 := n1_; have BK357 := n2_; have HB := n3_; clear n0_ n1_ n2_ n3_; (try clear hb); (try clear hb2); (try clear hk); (try clear hi); (try clear ho0); (try clear ho1)) | ((with_reducible refine gate_dst (N := 7) rfl ?_); (try (refine gate_guard (by rfl) ?_; dsimp only)); refine box_event ?hg (N := 7) ?hd (cs := #[.string (⟨#[]⟩ : ByteArray), .slice none 0 0, .slice none 0 0]) (t := 25) ?hr ?_; (case hd => rfl); (case hg => rfl); (case hr => first | (go_simp; done) | (go_simp; rfl)); intro gb371 hg w28 hbox hb; have n0_ := Aside0.mk (Kd.R_below (by (with_reducible repeat (first | apply Kd.R_alloc | apply Kd.R_drewN | apply Kd.R_drew)); exact HO365.out) hb); have n1_ := Aside0.mk (Kd.R_below (by (with_reducible repeat (first | apply Kd.R_alloc | apply Kd.R_drewN | apply Kd.R_drew)); exact HO368.out) hb); have n2_ := Aside0.mk (blk_below (g := gb357) (o := .cells #[.string a0_0, .slice A0_1 l0_1.length c0_1, .slice A0_2 l0_2.length c0_2] 25 (0, 0)) (by (with_reducible repeat (first | refine blk_drewN ?_ _ | refine blk_drew ?_ | refine blk_alloc ?_ _)); exact BK357.out) hb); have n3_ := Aside0.mk (below_step (by repeat (first | (with_reducible first | exact HB.out | apply below_alloc | apply pw_below_drewN | apply below_drew1 | refine below_set ?_ GE357.out) | exact HB.out)) hb); have n4_ := Aside0.mk (hbox); have n5_ := Aside0.mk ((by rw [hg]; exact (below_size (by repeat (first | (with_reducible first | exact HB.out | apply below_alloc | apply pw_below_drewN | apply below_drew1 | refine below_set ?_ GE357.out) | exact HB.out))) : w.heap.size ≤ gb371)); have n6_ := Aside0.mk ((by rw [hg]; exact (below_size (by repeat (first | (with_reducible first | exact HB.out | apply below_alloc | apply pw_below_drewN | apply below_drew1 | refine below_set ?_ GE357.out) | exact HB.out))) : w.heap.size ≤ gb371)); have n7_ := Aside0.mk ((by rw [hg]; exact Nat.ne_of_lt (blk_lt (g := gb357) (o := .cells #[.string a0_0, .slice A0_1 l0_1.length c0_1, .slice A0_2 l0_2.length c0_2] 25 (0, 0)) (by (with_reducible repeat (first | refine blk_drewN ?_ _ | refine blk_drew ?_ | refine blk_alloc ?_ _)); exact BK357.out)) : gb357 ≠ gb371)); have n8_ := Aside0.mk ((by rw [hg]; exact Nat.ne_of_gt (blk_lt (g := gb357) (o := .cells #[.string a0_0, .slice A0_1 l0_1.length c0_1, .slice A0_2 l0_2.length c0_2] 25 (0, 0)) (by (with_reducible repeat (first | refine blk_drewN ?_ _ | refine blk_drew ?_ | refine blk_alloc ?_ _)); exact BK357.out)) : gb371 ≠ gb357)); clear HO365; clear HO368; clear BK357; clear HB; have HO365 := n0_; have HO368 := n1_; have BK357 := n2_; have HB := n3_; have BK371 := n4_; have GW371 := n5_; have GE371 := n6_; have NB357_371 := n7_; have NB371_357 := n8_; clear n0_ n1_ n2_ n3_ n4_ n5_ n6_ n7_ n8_; clear hb hbox hg; have hnb29 := NB371_357.out; have hnc29 := NB357_371.out; have hcz30_0 : w28.cell? ⟨gb371, 0, none⟩ = some (.string (⟨#[]⟩ : ByteArray)) := (blk_cell BK371.out 0).trans rfl; have hcz30_1 : w28.cell? ⟨gb371, 1, none⟩ = some (.slice none 0 0) := (blk_cell BK371.out 1).trans rfl; have hcz30_2 : w28.cell? ⟨gb371, 2, none⟩ = some (.slice none 0 0) := (blk_cell BK371.out 2).trans rfl; have hfz30_0 := blk_frozen BK371.out 0; have hfz30_1 := blk_frozen BK371.out 1; have hfz30_2 := blk_frozen BK371.out 2; obtain ⟨Ao31, co31, eo31⟩ := Kd.R_slice HO365.out; subst eo31; obtain ⟨Ao32, co32, eo32⟩ := Kd.R_slice HO368.out; subst eo32) | ((with_reducible refine gate_callee (f := 13) rfl ?_); refine goesL_ (some 40) rfl rfl Tryd.func13 (by kernel_rfl) rfl #[.string t360] rfl (by (try simp only [List.map_toArray, List.map_cons, List.map_nil]); first | done | rfl | (simp only [List.length_drop, List.length_take]; rfl)) ?_; (with_reducible refine (words_Lines.calls kj2 t360 t372 t373 _ A20.out).mono ?_); rintro e w33 ⟨v374, rfl, ho0, hb⟩; refine ⟨_, rfl, ?_⟩; have n0_ := Aside0.mk (Kd.R_below (by (with_reducible repeat (first | apply Kd.R_alloc | apply Kd.R_drewN | apply Kd.R_drew)); exact (Kd.R_mono (Kd.R_far (p := ⟨gb371, 2, none⟩) (Kd.R_far (p := ⟨gb371, 1, none⟩) (Kd.R_far (p := ⟨gb371, 0, none⟩) (Kd.R_types HO365.out BK371.out (by decide)) (fun _ hk => hk.2) (.string t362)) (fun _ hk => hk.2) (.slice Ao31 t363.length co31)) (fun _ hk => hk.2) (.slice Ao32 t366.length co32)) (fun _ h_ => h_.1))) hb); have n1_ := Aside0.mk (Kd.R_below (by (with_reducible repeat (first | apply Kd.R_alloc | apply Kd.R_drewN | apply Kd.R_drew)); exact (Kd.R_mono (Kd.R_far (p := ⟨gb371, 2, none⟩) (Kd.R_far (p := ⟨gb371, 1, none⟩) (Kd.R_far (p := ⟨gb371, 0, none⟩) (Kd.R_types HO368.out BK371.out (by decide)) (fun _ hk => hk.2) (.string t362)) (fun _ hk => hk.2) (.slice Ao31 t363.length co31)) (fun _ hk => hk.2) (.slice Ao32 t366.length co32)) (fun _ h_ => h_.1))) hb); have n2_ := Aside0.mk (Kd.R_lower ho0 (below_size (by repeat (first | (with_reducible first | exact HB.out | apply below_alloc | apply pw_below_drewN | apply below_drew1 | refine below_set ?_ GE357.out | refine below_set ?_ GE371.out) | exact HB.out)))); have n3_ := Aside0.mk (blk_below (g := gb357) (o := .cells #[.string a0_0, .slice A0_1 l0_1.length c0_1, .slice A0_2 l0_2.length c0_2] 25 (0, 0)) (by (with_reducible repeat (first | refine blk_drewN ?_ _ | refine blk_drew ?_ | refine blk_alloc ?_ _)); refine blk_far ?_ NB357_371.out _; (with_reducible repeat (first | refine blk_drewN ?_ _ | refine blk_drew ?_ | refine blk_alloc ?_ _)); refine blk_far ?_ NB357_371.out _; (with_reducible repeat (first | refine blk_drewN ?_ _ | refine blk_drew ?_ | refine blk_alloc ?_ _)); refine blk_far ?_ NB357_371.out _; (with_reducible repeat (first | refine blk_drewN ?_ _ | refine blk_drew ?_ | refine blk_alloc ?_ _)); exact BK357.out) hb); have n4_ := Aside0.mk (blk_below (g := gb371) (o := .cells #[.string t362, .slice Ao31 t363.length co31, .slice Ao32 t366.length co32] 25 (0, 0)) (by (with_reducible repeat (first | refine blk_drewN ?_ _ | refine blk_drew ?_ | refine blk_alloc ?_ _)); refine blk_put (cs := #[.string t362, .slice Ao31 t363.length co31, .slice none 0 0]) ?_ 2 _ rfl; (with_reducible repeat (first | refine blk_drewN ?_ _ | refine blk_drew ?_ | refine blk_alloc ?_ _)); refine blk_put (cs := #[.string t362, .slice none 0 0, .slice none 0 0]) ?_ 1 _ rfl; (with_reducible repeat (first | refine blk_drewN ?_ _ | refine blk_drew ?_ | refine blk_alloc ?_ _)); refine blk_put (cs := #[.string (⟨#[]⟩ : ByteArray), .slice none 0 0, .slice none 0 0]) ?_ 0 _ rfl; (with_reducible repeat (first | refine blk_drewN ?_ _ | refine blk_drew ?_ | refine blk_alloc ?_ _)); exact BK371.out) hb); have n5_ := Aside0.mk (below_step (by repeat (first | (with_reducible first | exact HB.out | apply below_alloc | apply pw_below_drewN | apply below_drew1 | refine below_set ?_ GE357.out | refine below_set ?_ GE371.out) | exact HB.out)) hb); clear HO365; clear HO368; clear BK357; clear BK371; clear HB; have HO365 := n0_; have HO368 := n1_; have HO375 := n2_; have BK357 := n3_; have BK371 := n4_; have HB := n5_; clear n0_ n1_ n2_ n3_ n4_ n5_; (try clear hb); (try clear hb2); (try clear hk); (try clear hi); (try clear ho0); have hcz34_0 : w33.cell? ⟨gb371, 0, none⟩ = some (.string t362) := (blk_cell BK371.out 0).trans rfl; have hcz34_1 : w33.cell? ⟨gb371, 1, none⟩ = some (.slice Ao31 t363.length co31) := (blk_cell BK371.out 1).trans rfl; have hcz34_2 : w33.cell? ⟨gb371, 2, none⟩ = some (.slice Ao32 t366.length co32) := (blk_cell BK371.out 2).trans rfl; have hfz34_0 := blk_frozen BK371.out 0; have hfz34_1 := blk_frozen BK371.out 1; have hfz34_2 := blk_frozen BK371.out 2; have hcz35_0 : w33.cell? ⟨gb357, 0, none⟩ = some (.string a0_0) := (blk_cell BK357.out 0).trans rfl; have hcz35_1 : w33.cell? ⟨gb357, 1, none⟩ = some (.slice A0_1 l0_1.length c0_1) := (blk_cell BK357.out 1).trans rfl; have hcz35_2 : w33.cell? ⟨gb357, 2, none⟩ = some (.slice A0_2 l0_2.length c0_2) := (blk_cell BK357.out 2).trans rfl; have hfz35_0 := blk_frozen BK357.out 0; have hfz35_1 := blk_frozen BK357.out 1; have hfz35_2 := blk_frozen BK357.out 2) | (go_at_call 14; (with_reducible refine (remontoirkeep_Defs.calls kj2 t362 _ _ t363 _ _ t366 a0_0 _ _ l0_1 _ _ l0_2 true _ ?side1 ?side2 ?side3 ?side4 ?side5 ?side6 ?side7 ?side8 A23.out).mono ?_); (case side1 => repeat (first | exact (Kd.R_reads' HO365.out).2.2 | (with_reducible refine Kd.C_alloc ?_ _) | (with_reducible refine Kd.C_drewN ?_ _) | (with_reducible refine Kd.C_drew ?_))); (case side2 => exact (Kd.R_reads' HO365.out).2.1); (case side3 => repeat (first | exact (Kd.R_reads' HO368.out).2.2 | (with_reducible refine Kd.C_alloc ?_ _) | (with_reducible refine Kd.C_drewN ?_ _) | (with_reducible refine Kd.C_drew ?_))); (case side4 => exact (Kd.R_reads' HO368.out).2.1); (case side5 => repeat (first | exact (Kd.C_below HR0_1.out HB.out) | (with_reducible refine Kd.C_alloc ?_ _) | (with_reducible refine Kd.C_drewN ?_ _) | (with_reducible refine Kd.C_drew ?_))); (case side6 => exact HC0_1.out); (case side7 => repeat (first | exact (Kd.C_below HR0_2.out HB.out) | (with_reducible refine Kd.C_alloc ?_ _) | (with_reducible refine Kd.C_drewN ?_ _) | (with_reducible refine Kd.C_drew ?_))); (case side8 => exact HC0_2.out); rintro e w36 ⟨rfl, hb⟩; have n0_ := Aside0.mk (Kd.R_below (by (with_reducible repeat (first | apply Kd.R_alloc | apply Kd.R_drewN | apply Kd.R_drew)); exact HO365.out) hb); have n1_ := Aside0.mk (Kd.R_below (by (with_reducible repeat (first | apply Kd.R_alloc | apply Kd.R_drewN | apply Kd.R_drew)); exact HO368.out) hb); have n2_ := Aside0.mk (Kd.R_below (by (with_reducible repeat (first | apply Kd.R_alloc | apply Kd.R_drewN | apply Kd.R_drew)); exact HO375.out) hb); have n3_ := Aside0.mk (blk_below (g := gb357) (o := .cells #[.string a0_0, .slice A0_1 l0_1.length c0_1, .slice A0_2 l0_2.length c0_2] 25 (0, 0)) (by (with_reducible repeat (first | refine blk_drewN ?_ _ | refine blk_drew ?_ | refine blk_alloc ?_ _)); exact BK357.out) hb); have n4_ := Aside0.mk (blk_below (g := gb371) (o := .cells #[.string t362, .slice Ao31 t363.length co31, .slice Ao32 t366.length co32] 25 (0, 0)) (by (with_reducible repeat (first | refine blk_drewN ?_ _ | refine blk_drew ?_ | refine blk_alloc ?_ _)); exact BK371.out) hb); have n5_ := Aside0.mk (below_step (by repeat (first | (with_reducible first | exact HB.out | apply below_alloc | apply pw_below_drewN | apply below_drew1 | refine below_set ?_ GE357.out | refine below_set ?_ GE371.out) | exact HB.out)) hb); clear HO365; clear HO368; clear HO375; clear BK357; clear BK371; clear HB; have HO365 := n0_; have HO368 := n1_; have HO375 := n2_; have BK357 := n3_; have BK371 := n4_; have HB := n5_; clear n0_ n1_ n2_ n3_ n4_ n5_; (try clear hb); (try clear hb2); (try clear hk); (try clear hi); obtain ⟨Ao37, co37, eo37⟩ := Kd.R_slice HO375.out; subst eo37; have hcz38_0 : w36.cell? ⟨gb357, 0, none⟩ = some (.string a0_0) := (blk_cell BK357.out 0).trans rfl; have hcz38_1 : w36.cell? ⟨gb357, 1, none⟩ = some (.slice A0_1 l0_1.length c0_1) := (blk_cell BK357.out 1).trans rfl; have hcz38_2 : w36.cell? ⟨gb357, 2, none⟩ = some (.slice A0_2 l0_2.length c0_2) := (blk_cell BK357.out 2).trans rfl; have hfz38_0 := blk_frozen BK357.out 0; have hfz38_1 := blk_frozen BK357.out 1; have hfz38_2 := blk_frozen BK357.out 2))
           go_meet
           case rel => exact ⟨_, H', ⟨by have := HJ2.out; first | omega | exact Nat.le_refl _⟩, ⟨by (with_reducible repeat (first | refine blk_drewN ?_ _ | refine blk_drew ?_ | refine blk_alloc ?_ _)); exact BK357.out⟩, ⟨by repeat (first | (with_reducible first | exact HB.out | apply below_alloc | apply pw_below_drewN | apply below_drew1 | refine below_set ?_ GE357.out | refine below_set ?_ GE371.out) | exact HB.out)⟩⟩
          ·
           rw [if_neg c26] at H
           exact absurd (Option.some.inj H) (by rw [hr_]; decide)
         ·
          rw [if_neg c25] at H
          exact absurd (Option.some.inj H) (by rw [hr_]; decide)
        ·
         replace c24 := Bool.eq_false_iff.mpr c24
         subst c24
         have H1 : (some false) = some r := by rw [if_neg (show ¬ (false = true) by decide)] at H; exact H
         exact absurd (Option.some.inj H1) (by rw [hr_]; decide)
       ·
        rw [if_neg c22] at H
        exact absurd (Option.some.inj H) (by rw [hr_]; decide)
      ·
       rw [if_neg c21] at H
       exact absurd (Option.some.inj H) (by rw [hr_]; decide)
     ·
      replace c18 := Bool.eq_false_iff.mpr c18
      subst c18
      have H1 : (remontoirlaw17_DefBack.j1 kj2 a1) = some r := by rw [if_neg (show ¬ (false = true) by decide)] at H; exact H
      clear H
      have H := H1
      clear H1
      have H' := Aside0.mk H
      clear H
      go_wp2
      go_meet
      case rel => exact ⟨_, H', ⟨by have := HJ2.out; first | omega | exact Nat.le_refl _⟩, ⟨by (with_reducible repeat (first | refine blk_drewN ?_ _ | refine blk_drew ?_ | refine blk_alloc ?_ _)); exact BK357.out⟩, ⟨by repeat (first | (with_reducible first | exact HB.out | apply below_alloc | apply pw_below_drewN | apply below_drew1 | refine below_set ?_ GE357.out) | exact HB.out)⟩⟩
    case rest =>
     clear HC15
     try clear c1
     try clear c2
     try clear p2
     try clear c4
     try clear c5
     try clear c6
     try clear p6
     try clear c7
     try clear c8
     try clear c9
     try clear c10
     try clear c11
     try clear c12
     try clear c13
     try clear c18
     try clear c21
     try clear c21b0
     try clear c21b1
     try clear c22
     try clear c22b0
     try clear c22b1
     try clear c24
     try clear c25
     try clear c25b0
     try clear c25b1
     try clear c26
     try clear c26b0
     try clear c26b1
     try clear c29
     try clear c41
     try clear c53
     try clear c63
     try clear p64
     try clear c73
     try clear c80
     try clear hcz16_0
     try clear hcz16_1
     try clear hcz16_2
     try clear hcz30_0
     try clear hcz30_1
     try clear hcz30_2
     try clear hcz34_0
     try clear hcz34_1
     try clear hcz34_2
     try clear hcz35_0
     try clear hcz35_1
     try clear hcz35_2
     try clear hcz38_0
     try clear hcz38_1
     try clear hcz38_2
     try clear hcz42_0
     try clear hcz42_1
     try clear hcz42_2
     try clear hcz46_0
     try clear hcz46_1
     try clear hcz46_2
     try clear hcz47_0
     try clear hcz47_1
     try clear hcz47_2
     try clear hcz50_0
     try clear hcz50_1
     try clear hcz50_2
     try clear hcz54_0
     try clear hcz54_1
     try clear hcz54_2
     try clear hcz58_0
     try clear hcz58_1
     try clear hcz58_2
     try clear hcz59_0
     try clear hcz59_1
     try clear hcz59_2
     try clear hcz64_0
     try clear hcz64_1
     try clear hcz64_2
     try clear hcz68_0
     try clear hcz68_1
     try clear hcz68_2
     try clear hcz69_0
     try clear hcz69_1
     try clear hcz69_2
     try clear hcz74_0
     try clear hcz74_1
     try clear hcz74_2
     try clear hcz7_0
     try clear hcz7_1
     try clear hcz7_2
     try clear hcz81_0
     try clear hcz81_1
     try clear hcz81_2
     try clear hcz9_0
     try clear hcz9_1
     try clear hcz9_2
     try clear hfz16_0
     try clear hfz16_1
     try clear hfz16_2
     try clear hfz30_0
     try clear hfz30_1
     try clear hfz30_2
     try clear hfz34_0
     try clear hfz34_1
     try clear hfz34_2
     try clear hfz35_0
     try clear hfz35_1
     try clear hfz35_2
     try clear hfz38_0
     try clear hfz38_1
     try clear hfz38_2
     try clear hfz42_0
     try clear hfz42_1
     try clear hfz42_2
     try clear hfz46_0
     try clear hfz46_1
     try clear hfz46_2
     try clear hfz47_0
     try clear hfz47_1
     try clear hfz47_2
     try clear hfz50_0
     try clear hfz50_1
     try clear hfz50_2
     try clear hfz54_0
     try clear hfz54_1
     try clear hfz54_2
     try clear hfz58_0
     try clear hfz58_1
     try clear hfz58_2
     try clear hfz59_0
     try clear hfz59_1
     try clear hfz59_2
     try clear hfz64_0
     try clear hfz64_1
     try clear hfz64_2
     try clear hfz68_0
     try clear hfz68_1
     try clear hfz68_2
     try clear hfz69_0
     try clear hfz69_1
     try clear hfz69_2
     try clear hfz74_0
     try clear hfz74_1
     try clear hfz74_2
     try clear hfz7_0
     try clear hfz7_1
     try clear hfz7_2
     try clear hfz81_0
     try clear hfz81_1
     try clear hfz81_2
     try clear hfz9_0
     try clear hfz9_1
     try clear hfz9_2
     try clear p2
     obtain ⟨kq, HA, HJ14, BK357, HB⟩ := hcut
     cases kq with
     | zero => exact absurd HA.out (by simp [remontoirlaw17_DefBack.j1])
     | succ kj14 =>
      have H := HA.out
      clear HA
      simp only [remontoirlaw17_DefBack.j1] at H
      replace H := Option.bind_eq_some_iff.mp H
      obtain ⟨⟨t377, t378, t381, t384, t385⟩, A850, H⟩ := H
      replace H : (if t385 = 0 then ((def_Print.f kj14 t377 t378 t381).bind fun bt387 => (if bt387.2 = true then (if bt387.1.toList = a1.toList then ((remontoirlaw17_wakes.f kj14).bind fun t389 => (some t389)) else (some false)) else (some false))) else ((remontoirlaw17_wakes.f kj14).bind fun t390 => (some t390))) = some r := H
      have A85 := Aside0.mk A850
      clear A850
      by_cases c86 : t385 = 0
      ·
       rw [if_pos c86] at H
       have c86b0 : (t385 == 0) = true := beq_iff_eq.mpr c86
       have c86b1 : (t385 != 0) = false := bne_eq_false_iff_eq.mpr c86
       clear c86
       replace H := Option.bind_eq_some_iff.mp H
       obtain ⟨⟨t387, t388⟩, A870, H⟩ := H
       replace H : (if t388 = true then (if t387.toList = a1.toList then ((remontoirlaw17_wakes.f kj14).bind fun t389 => (some t389)) else (some false)) else (some false)) = some r := H
       have A87 := Aside0.mk A870
       clear A870
       by_cases c88 : t388 = true
       ·
        subst c88
        have H1 : (if t387.toList = a1.toList then ((remontoirlaw17_wakes.f kj14).bind fun t389 => (some t389)) else (some false)) = some r := by rw [if_pos rfl] at H; exact H
        clear H
        have H := H1
        clear H1
        by_cases c89 : t387.toList = a1.toList
        ·
         rw [if_pos c89] at H
         have c89b0 : (t387.toList == a1.toList) = true := beq_iff_eq.mpr c89
         have c89b1 : (t387.toList != a1.toList) = false := bne_eq_false_iff_eq.mpr c89
         clear c89
         replace H := Option.bind_eq_some_iff.mp H
         obtain ⟨t389, A900, H⟩ := H
         replace H : (some t389) = some r := H
         have A90 := Aside0.mk A900
         clear A900
         obtain rfl := Option.some.inj H
         go_wp2_with (first | ((with_reducible refine gate_callee (f := 12) rfl ?_); refine goesL_ (some 74) rfl rfl Tryd.func12 (by kernel_rfl) rfl #[.string a1] rfl (by (try simp only [List.map_toArray, List.map_cons, List.map_nil]); first | done | rfl | (simp only [List.length_drop, List.length_take]; rfl)) ?_; (with_reducible refine (def_Parse.calls kj14 a1 t377 t378 t381 t384 t385 _ A85.out).mono ?_); rintro e w91 ⟨v379, v382, rfl, ho0, ho1, hb⟩; refine ⟨_, rfl, ?_⟩; have n0_ := Aside0.mk (Kd.R_lower ho0 (below_size (by repeat (first | (with_reducible first | exact HB.out | apply below_alloc | apply pw_below_drewN | apply below_drew1 | refine below_set ?_ GE357.out) | exact HB.out)))); have n1_ := Aside0.mk (Kd.R_lower ho1 (below_size (by repeat (first | (with_reducible first | exact HB.out | apply below_alloc | apply pw_below_drewN | apply below_drew1 | refine below_set ?_ GE357.out) | exact HB.out)))); have n2_ := Aside0.mk (blk_below (g := gb357) (o := .cells #[.string a0_0, .slice A0_1 l0_1.length c0_1, .slice A0_2 l0_2.length c0_2] 25 (0, 0)) (by (with_reducible repeat (first | refine blk_drewN ?_ _ | refine blk_drew ?_ | refine blk_alloc ?_ _)); exact BK357.out) hb); have n3_ := Aside0.mk (below_step (by repeat (first | (with_reducible first | exact HB.out | apply below_alloc | apply pw_below_drewN | apply below_drew1 | refine below_set ?_ GE357.out) | exact HB.out)) hb); clear BK357; clear HB; have HO380 := n0_; have HO383 := n1_; have BK357 := n2_; have HB := n3_; clear n0_ n1_ n2_ n3_; (try clear hb); (try clear hb2); (try clear hk); (try clear hi); (try clear ho0); (try clear ho1)) | ((with_reducible refine gate_dst (N := 12) rfl ?_); (try (refine gate_guard (by rfl) ?_; dsimp only)); refine box_event ?hg (N := 12) ?hd (cs := #[.string (⟨#[]⟩ : ByteArray), .slice none 0 0, .slice none 0 0]) (t := 25) ?hr ?_; (case hd => rfl); (case hg => rfl); (case hr => first | (go_simp; done) | (go_simp; rfl)); intro gb386 hg w92 hbox hb; have n0_ := Aside0.mk (Kd.R_below (by (with_reducible repeat (first | apply Kd.R_alloc | apply Kd.R_drewN | apply Kd.R_drew)); exact HO380.out) hb); have n1_ := Aside0.mk (Kd.R_below (by (with_reducible repeat (first | apply Kd.R_alloc | apply Kd.R_drewN | apply Kd.R_drew)); exact HO383.out) hb); have n2_ := Aside0.mk (blk_below (g := gb357) (o := .cells #[.string a0_0, .slice A0_1 l0_1.length c0_1, .slice A0_2 l0_2.length c0_2] 25 (0, 0)) (by (with_reducible repeat (first | refine blk_drewN ?_ _ | refine blk_drew ?_ | refine blk_alloc ?_ _)); exact BK357.out) hb); have n3_ := Aside0.mk (below_step (by repeat (first | (with_reducible first | exact HB.out | apply below_alloc | apply pw_below_drewN | apply below_drew1 | refine below_set ?_ GE357.out) | exact HB.out)) hb); have n4_ := Aside0.mk (hbox); have n5_ := Aside0.mk ((by rw [hg]; exact (below_size (by repeat (first | (with_reducible first | exact HB.out | apply below_alloc | apply pw_below_drewN | apply below_drew1 | refine below_set ?_ GE357.out) | exact HB.out))) : w.heap.size ≤ gb386)); have n6_ := Aside0.mk ((by rw [hg]; exact (below_size (by repeat (first | (with_reducible first | exact HB.out | apply below_alloc | apply pw_below_drewN | apply below_drew1 | refine below_set ?_ GE357.out) | exact HB.out))) : w.heap.size ≤ gb386)); have n7_ := Aside0.mk ((by rw [hg]; exact Nat.ne_of_lt (blk_lt (g := gb357) (o := .cells #[.string a0_0, .slice A0_1 l0_1.length c0_1, .slice A0_2 l0_2.length c0_2] 25 (0, 0)) (by (with_reducible repeat (first | refine blk_drewN ?_ _ | refine blk_drew ?_ | refine blk_alloc ?_ _)); exact BK357.out)) : gb357 ≠ gb386)); have n8_ := Aside0.mk ((by rw [hg]; exact Nat.ne_of_gt (blk_lt (g := gb357) (o := .cells #[.string a0_0, .slice A0_1 l0_1.length c0_1, .slice A0_2 l0_2.length c0_2] 25 (0, 0)) (by (with_reducible repeat (first | refine blk_drewN ?_ _ | refine blk_drew ?_ | refine blk_alloc ?_ _)); exact BK357.out)) : gb386 ≠ gb357)); clear HO380; clear HO383; clear BK357; clear HB; have HO380 := n0_; have HO383 := n1_; have BK357 := n2_; have HB := n3_; have BK386 := n4_; have GW386 := n5_; have GE386 := n6_; have NB357_386 := n7_; have NB386_357 := n8_; clear n0_ n1_ n2_ n3_ n4_ n5_ n6_ n7_ n8_; clear hb hbox hg; have hnb93 := NB386_357.out; have hnc93 := NB357_386.out; have hcz94_0 : w92.cell? ⟨gb386, 0, none⟩ = some (.string (⟨#[]⟩ : ByteArray)) := (blk_cell BK386.out 0).trans rfl; have hcz94_1 : w92.cell? ⟨gb386, 1, none⟩ = some (.slice none 0 0) := (blk_cell BK386.out 1).trans rfl; have hcz94_2 : w92.cell? ⟨gb386, 2, none⟩ = some (.slice none 0 0) := (blk_cell BK386.out 2).trans rfl; have hfz94_0 := blk_frozen BK386.out 0; have hfz94_1 := blk_frozen BK386.out 1; have hfz94_2 := blk_frozen BK386.out 2; obtain ⟨Ao95, co95, eo95⟩ := Kd.R_slice HO380.out; subst eo95; obtain ⟨Ao96, co96, eo96⟩ := Kd.R_slice HO383.out; subst eo96) | ((with_reducible refine gate_callee (f := 10) rfl ?_); refine goesL_ (some 82) rfl rfl Tryd.func10 (by kernel_rfl) rfl #[.agg #[.string t377, .slice Ao95 t378.length co95, .slice Ao96 t381.length co96]] rfl (by (try simp only [List.map_toArray, List.map_cons, List.map_nil]); first | done | rfl | (simp only [List.length_drop, List.length_take]; rfl)) ?_; (with_reducible refine (def_Print.calls kj14 t377 _ _ t378 _ _ t381 t387 true _ (Tab.below hTab (by repeat (first | exact HB.out | apply below_alloc | apply pw_below_drewN | apply below_drew1 | (refine below_set ?_ (Aside0.out ?_) <;> (first | assumption | skip)))))  ?side1 ?side2 ?side3 ?side4 A87.out).mono ?_); (case side1 => refine (Kd.R_reads' (e := 40) (base := w.heap.size) (ok := fun k_ => True) (n := t378.length) (c := co95) ?_).2.2; exact (by (with_reducible repeat (first | apply Kd.R_alloc | apply Kd.R_drewN | apply Kd.R_drew)); exact (Kd.R_mono (Kd.R_far (p := ⟨gb386, 2, none⟩) (Kd.R_far (p := ⟨gb386, 1, none⟩) (Kd.R_far (p := ⟨gb386, 0, none⟩) (Kd.R_types HO380.out BK386.out (by decide)) (fun _ hk => hk.2) (.string t377)) (fun _ hk => hk.2) (.slice Ao95 t378.length co95)) (fun _ hk => hk.2) (.slice Ao96 t381.length co96)) (fun _ h_ => h_.1)))); (case side2 => exact (Kd.R_reads' HO380.out).2.1); (case side3 => refine (Kd.R_reads' (e := 42) (base := w.heap.size) (ok := fun k_ => True) (n := t381.length) (c := co96) ?_).2.2; exact (by (with_reducible repeat (first | apply Kd.R_alloc | apply Kd.R_drewN | apply Kd.R_drew)); exact (Kd.R_mono (Kd.R_far (p := ⟨gb386, 2, none⟩) (Kd.R_far (p := ⟨gb386, 1, none⟩) (Kd.R_far (p := ⟨gb386, 0, none⟩) (Kd.R_types HO383.out BK386.out (by decide)) (fun _ hk => hk.2) (.string t377)) (fun _ hk => hk.2) (.slice Ao95 t378.length co95)) (fun _ hk => hk.2) (.slice Ao96 t381.length co96)) (fun _ h_ => h_.1)))); (case side4 => exact (Kd.R_reads' HO383.out).2.1); rintro e w97 ⟨rfl, hb⟩; refine ⟨_, rfl, ?_⟩; have n0_ := Aside0.mk (Kd.R_below (by (with_reducible repeat (first | apply Kd.R_alloc | apply Kd.R_drewN | apply Kd.R_drew)); exact (Kd.R_mono (Kd.R_far (p := ⟨gb386, 2, none⟩) (Kd.R_far (p := ⟨gb386, 1, none⟩) (Kd.R_far (p := ⟨gb386, 0, none⟩) (Kd.R_types HO380.out BK386.out (by decide)) (fun _ hk => hk.2) (.string t377)) (fun _ hk => hk.2) (.slice Ao95 t378.length co95)) (fun _ hk => hk.2) (.slice Ao96 t381.length co96)) (fun _ h_ => h_.1))) hb); have n1_ := Aside0.mk (Kd.R_below (by (with_reducible repeat (first | apply Kd.R_alloc | apply Kd.R_drewN | apply Kd.R_drew)); exact (Kd.R_mono (Kd.R_far (p := ⟨gb386, 2, none⟩) (Kd.R_far (p := ⟨gb386, 1, none⟩) (Kd.R_far (p := ⟨gb386, 0, none⟩) (Kd.R_types HO383.out BK386.out (by decide)) (fun _ hk => hk.2) (.string t377)) (fun _ hk => hk.2) (.slice Ao95 t378.length co95)) (fun _ hk => hk.2) (.slice Ao96 t381.length co96)) (fun _ h_ => h_.1))) hb); have n2_ := Aside0.mk (blk_below (g := gb357) (o := .cells #[.string a0_0, .slice A0_1 l0_1.length c0_1, .slice A0_2 l0_2.length c0_2] 25 (0, 0)) (by (with_reducible repeat (first | refine blk_drewN ?_ _ | refine blk_drew ?_ | refine blk_alloc ?_ _)); refine blk_far ?_ NB357_386.out _; (with_reducible repeat (first | refine blk_drewN ?_ _ | refine blk_drew ?_ | refine blk_alloc ?_ _)); refine blk_far ?_ NB357_386.out _; (with_reducible repeat (first | refine blk_drewN ?_ _ | refine blk_drew ?_ | refine blk_alloc ?_ _)); refine blk_far ?_ NB357_386.out _; (with_reducible repeat (first | refine blk_drewN ?_ _ | refine blk_drew ?_ | refine blk_alloc ?_ _)); exact BK357.out) hb); have n3_ := Aside0.mk (blk_below (g := gb386) (o := .cells #[.string t377, .slice Ao95 t378.length co95, .slice Ao96 t381.length co96] 25 (0, 0)) (by (with_reducible repeat (first | refine blk_drewN ?_ _ | refine blk_drew ?_ | refine blk_alloc ?_ _)); refine blk_put (cs := #[.string t377, .slice Ao95 t378.length co95, .slice none 0 0]) ?_ 2 _ rfl; (with_reducible repeat (first | refine blk_drewN ?_ _ | refine blk_drew ?_ | refine blk_alloc ?_ _)); refine blk_put (cs := #[.string t377, .slice none 0 0, .slice none 0 0]) ?_ 1 _ rfl; (with_reducible repeat (first | refine blk_drewN ?_ _ | refine blk_drew ?_ | refine blk_alloc ?_ _)); refine blk_put (cs := #[.string (⟨#[]⟩ : ByteArray), .slice none 0 0, .slice none 0 0]) ?_ 0 _ rfl; (with_reducible repeat (first | refine blk_drewN ?_ _ | refine blk_drew ?_ | refine blk_alloc ?_ _)); exact BK386.out) hb); have n4_ := Aside0.mk (below_step (by repeat (first | (with_reducible first | exact HB.out | apply below_alloc | apply pw_below_drewN | apply below_drew1 | refine below_set ?_ GE357.out | refine below_set ?_ GE386.out) | exact HB.out)) hb); clear HO380; clear HO383; clear BK357; clear BK386; clear HB; have HO380 := n0_; have HO383 := n1_; have BK357 := n2_; have BK386 := n3_; have HB := n4_; clear n0_ n1_ n2_ n3_ n4_; (try clear hb); (try clear hb2); (try clear hk); (try clear hi)) | (go_at_call 9; (with_reducible refine (remontoirlaw17_wakes.calls kj14  t389 _ (Tab.below hTab (by repeat (first | exact HB.out | apply below_alloc | apply pw_below_drewN | apply below_drew1 | (refine below_set ?_ (Aside0.out ?_) <;> (first | assumption | skip)))))  A90.out).mono ?_); rintro e w98 ⟨rfl, hb⟩; have n0_ := Aside0.mk (Kd.R_below (by (with_reducible repeat (first | apply Kd.R_alloc | apply Kd.R_drewN | apply Kd.R_drew)); exact HO380.out) hb); have n1_ := Aside0.mk (Kd.R_below (by (with_reducible repeat (first | apply Kd.R_alloc | apply Kd.R_drewN | apply Kd.R_drew)); exact HO383.out) hb); have n2_ := Aside0.mk (blk_below (g := gb357) (o := .cells #[.string a0_0, .slice A0_1 l0_1.length c0_1, .slice A0_2 l0_2.length c0_2] 25 (0, 0)) (by (with_reducible repeat (first | refine blk_drewN ?_ _ | refine blk_drew ?_ | refine blk_alloc ?_ _)); exact BK357.out) hb); have n3_ := Aside0.mk (blk_below (g := gb386) (o := .cells #[.string t377, .slice Ao95 t378.length co95, .slice Ao96 t381.length co96] 25 (0, 0)) (by (with_reducible repeat (first | refine blk_drewN ?_ _ | refine blk_drew ?_ | refine blk_alloc ?_ _)); exact BK386.out) hb); have n4_ := Aside0.mk (below_step (by repeat (first | (with_reducible first | exact HB.out | apply below_alloc | apply pw_below_drewN | apply below_drew1 | refine below_set ?_ GE357.out | refine below_set ?_ GE386.out) | exact HB.out)) hb); clear HO380; clear HO383; clear BK357; clear BK386; clear HB; have HO380 := n0_; have HO383 := n1_; have BK357 := n2_; have BK386 := n3_; have HB := n4_; clear n0_ n1_ n2_ n3_ n4_; (try clear hb); (try clear hb2); (try clear hk); (try clear hi)))
         go_ret
         exact ⟨by first | rfl | (simp [errW_none, errW_some] <;> rfl) | (simp [*, errW_none, errW_some] <;> rfl), by repeat (first | (with_reducible first | exact HB.out | apply below_alloc | apply pw_below_drewN | apply below_drew1 | refine below_set ?_ GE357.out | refine below_set ?_ GE386.out) | exact HB.out)⟩
        ·
         rw [if_neg c89] at H
         exact absurd (Option.some.inj H) (by rw [hr_]; decide)
       ·
        replace c88 := Bool.eq_false_iff.mpr c88
        subst c88
        have H1 : (some false) = some r := by rw [if_neg (show ¬ (false = true) by decide)] at H; exact H
        exact absurd (Option.some.inj H1) (by rw [hr_]; decide)
      ·
       rw [if_neg c86] at H
       have c86b0 : (t385 == 0) = false := beq_eq_false_iff_ne.mpr c86
       have c86b1 : (t385 != 0) = true := bne_iff_ne.mpr c86
       replace H := Option.bind_eq_some_iff.mp H
       obtain ⟨t390, A1130, H⟩ := H
       replace H : (some t390) = some r := H
       have A113 := Aside0.mk A1130
       clear A1130
       obtain rfl := Option.some.inj H
       go_wp2_with (first | ((with_reducible refine gate_callee (f := 12) rfl ?_); refine goesL_ (some 74) rfl rfl Tryd.func12 (by kernel_rfl) rfl #[.string a1] rfl (by (try simp only [List.map_toArray, List.map_cons, List.map_nil]); first | done | rfl | (simp only [List.length_drop, List.length_take]; rfl)) ?_; (with_reducible refine (def_Parse.calls kj14 a1 t377 t378 t381 t384 t385 _ A85.out).mono ?_); rintro e w114 ⟨v379, v382, rfl, ho0, ho1, hb⟩; refine ⟨_, rfl, ?_⟩; have n0_ := Aside0.mk (Kd.R_lower ho0 (below_size (by repeat (first | (with_reducible first | exact HB.out | apply below_alloc | apply pw_below_drewN | apply below_drew1 | refine below_set ?_ GE357.out) | exact HB.out)))); have n1_ := Aside0.mk (Kd.R_lower ho1 (below_size (by repeat (first | (with_reducible first | exact HB.out | apply below_alloc | apply pw_below_drewN | apply below_drew1 | refine below_set ?_ GE357.out) | exact HB.out)))); have n2_ := Aside0.mk (blk_below (g := gb357) (o := .cells #[.string a0_0, .slice A0_1 l0_1.length c0_1, .slice A0_2 l0_2.length c0_2] 25 (0, 0)) (by (with_reducible repeat (first | refine blk_drewN ?_ _ | refine blk_drew ?_ | refine blk_alloc ?_ _)); exact BK357.out) hb); have n3_ := Aside0.mk (below_step (by repeat (first | (with_reducible first | exact HB.out | apply below_alloc | apply pw_below_drewN | apply below_drew1 | refine below_set ?_ GE357.out) | exact HB.out)) hb); clear BK357; clear HB; have HO380 := n0_; have HO383 := n1_; have BK357 := n2_; have HB := n3_; clear n0_ n1_ n2_ n3_; (try clear hb); (try clear hb2); (try clear hk); (try clear hi); (try clear ho0); (try clear ho1)) | ((with_reducible refine gate_dst (N := 12) rfl ?_); (try (refine gate_guard (by rfl) ?_; dsimp only)); refine box_event ?hg (N := 12) ?hd (cs := #[.string (⟨#[]⟩ : ByteArray), .slice none 0 0, .slice none 0 0]) (t := 25) ?hr ?_; (case hd => rfl); (case hg => rfl); (case hr => first | (go_simp; done) | (go_simp; rfl)); intro gb386 hg w115 hbox hb; have n0_ := Aside0.mk (Kd.R_below (by (with_reducible repeat (first | apply Kd.R_alloc | apply Kd.R_drewN | apply Kd.R_drew)); exact HO380.out) hb); have n1_ := Aside0.mk (Kd.R_below (by (with_reducible repeat (first | apply Kd.R_alloc | apply Kd.R_drewN | apply Kd.R_drew)); exact HO383.out) hb); have n2_ := Aside0.mk (blk_below (g := gb357) (o := .cells #[.string a0_0, .slice A0_1 l0_1.length c0_1, .slice A0_2 l0_2.length c0_2] 25 (0, 0)) (by (with_reducible repeat (first | refine blk_drewN ?_ _ | refine blk_drew ?_ | refine blk_alloc ?_ _)); exact BK357.out) hb); have n3_ := Aside0.mk (below_step (by repeat (first | (with_reducible first | exact HB.out | apply below_alloc | apply pw_below_drewN | apply below_drew1 | refine below_set ?_ GE357.out) | exact HB.out)) hb); have n4_ := Aside0.mk (hbox); have n5_ := Aside0.mk ((by rw [hg]; exact (below_size (by repeat (first | (with_reducible first | exact HB.out | apply below_alloc | apply pw_below_drewN | apply below_drew1 | refine below_set ?_ GE357.out) | exact HB.out))) : w.heap.size ≤ gb386)); have n6_ := Aside0.mk ((by rw [hg]; exact (below_size (by repeat (first | (with_reducible first | exact HB.out | apply below_alloc | apply pw_below_drewN | apply below_drew1 | refine below_set ?_ GE357.out) | exact HB.out))) : w.heap.size ≤ gb386)); have n7_ := Aside0.mk ((by rw [hg]; exact Nat.ne_of_lt (blk_lt (g := gb357) (o := .cells #[.string a0_0, .slice A0_1 l0_1.length c0_1, .slice A0_2 l0_2.length c0_2] 25 (0, 0)) (by (with_reducible repeat (first | refine blk_drewN ?_ _ | refine blk_drew ?_ | refine blk_alloc ?_ _)); exact BK357.out)) : gb357 ≠ gb386)); have n8_ := Aside0.mk ((by rw [hg]; exact Nat.ne_of_gt (blk_lt (g := gb357) (o := .cells #[.string a0_0, .slice A0_1 l0_1.length c0_1, .slice A0_2 l0_2.length c0_2] 25 (0, 0)) (by (with_reducible repeat (first | refine blk_drewN ?_ _ | refine blk_drew ?_ | refine blk_alloc ?_ _)); exact BK357.out)) : gb386 ≠ gb357)); clear HO380; clear HO383; clear BK357; clear HB; have HO380 := n0_; have HO383 := n1_; have BK357 := n2_; have HB := n3_; have BK386 := n4_; have GW386 := n5_; have GE386 := n6_; have NB357_386 := n7_; have NB386_357 := n8_; clear n0_ n1_ n2_ n3_ n4_ n5_ n6_ n7_ n8_; clear hb hbox hg; have hnb116 := NB386_357.out; have hnc116 := NB357_386.out; have hcz117_0 : w115.cell? ⟨gb386, 0, none⟩ = some (.string (⟨#[]⟩ : ByteArray)) := (blk_cell BK386.out 0).trans rfl; have hcz117_1 : w115.cell? ⟨gb386, 1, none⟩ = some (.slice none 0 0) := (blk_cell BK386.out 1).trans rfl; have hcz117_2 : w115.cell? ⟨gb386, 2, none⟩ = some (.slice none 0 0) := (blk_cell BK386.out 2).trans rfl; have hfz117_0 := blk_frozen BK386.out 0; have hfz117_1 := blk_frozen BK386.out 1; have hfz117_2 := blk_frozen BK386.out 2; obtain ⟨Ao118, co118, eo118⟩ := Kd.R_slice HO380.out; subst eo118; obtain ⟨Ao119, co119, eo119⟩ := Kd.R_slice HO383.out; subst eo119) | ((with_reducible refine gate_callee (f := 9) rfl ?_); refine goesL_ (some 94) rfl rfl Tryd.func9 (by kernel_rfl) rfl #[] rfl (by (try simp only [List.map_toArray, List.map_cons, List.map_nil]); first | done | rfl | (simp only [List.length_drop, List.length_take]; rfl)) ?_; (with_reducible refine (remontoirlaw17_wakes.calls kj14  t390 _ (Tab.below hTab (by repeat (first | exact HB.out | apply below_alloc | apply pw_below_drewN | apply below_drew1 | (refine below_set ?_ (Aside0.out ?_) <;> (first | assumption | skip)))))  A113.out).mono ?_); rintro e w120 ⟨rfl, hb⟩; refine ⟨_, rfl, ?_⟩; have n0_ := Aside0.mk (Kd.R_below (by (with_reducible repeat (first | apply Kd.R_alloc | apply Kd.R_drewN | apply Kd.R_drew)); exact (Kd.R_mono (Kd.R_far (p := ⟨gb386, 2, none⟩) (Kd.R_far (p := ⟨gb386, 1, none⟩) (Kd.R_far (p := ⟨gb386, 0, none⟩) (Kd.R_types HO380.out BK386.out (by decide)) (fun _ hk => hk.2) (.string t377)) (fun _ hk => hk.2) (.slice Ao118 t378.length co118)) (fun _ hk => hk.2) (.slice Ao119 t381.length co119)) (fun _ h_ => h_.1))) hb); have n1_ := Aside0.mk (Kd.R_below (by (with_reducible repeat (first | apply Kd.R_alloc | apply Kd.R_drewN | apply Kd.R_drew)); exact (Kd.R_mono (Kd.R_far (p := ⟨gb386, 2, none⟩) (Kd.R_far (p := ⟨gb386, 1, none⟩) (Kd.R_far (p := ⟨gb386, 0, none⟩) (Kd.R_types HO383.out BK386.out (by decide)) (fun _ hk => hk.2) (.string t377)) (fun _ hk => hk.2) (.slice Ao118 t378.length co118)) (fun _ hk => hk.2) (.slice Ao119 t381.length co119)) (fun _ h_ => h_.1))) hb); have n2_ := Aside0.mk (blk_below (g := gb357) (o := .cells #[.string a0_0, .slice A0_1 l0_1.length c0_1, .slice A0_2 l0_2.length c0_2] 25 (0, 0)) (by (with_reducible repeat (first | refine blk_drewN ?_ _ | refine blk_drew ?_ | refine blk_alloc ?_ _)); refine blk_far ?_ NB357_386.out _; (with_reducible repeat (first | refine blk_drewN ?_ _ | refine blk_drew ?_ | refine blk_alloc ?_ _)); refine blk_far ?_ NB357_386.out _; (with_reducible repeat (first | refine blk_drewN ?_ _ | refine blk_drew ?_ | refine blk_alloc ?_ _)); refine blk_far ?_ NB357_386.out _; (with_reducible repeat (first | refine blk_drewN ?_ _ | refine blk_drew ?_ | refine blk_alloc ?_ _)); exact BK357.out) hb); have n3_ := Aside0.mk (blk_below (g := gb386) (o := .cells #[.string t377, .slice Ao118 t378.length co118, .slice Ao119 t381.length co119] 25 (0, 0)) (by (with_reducible repeat (first | refine blk_drewN ?_ _ | refine blk_drew ?_ | refine blk_alloc ?_ _)); refine blk_put (cs := #[.string t377, .slice Ao118 t378.length co118, .slice none 0 0]) ?_ 2 _ rfl; (with_reducible repeat (first | refine blk_drewN ?_ _ | refine blk_drew ?_ | refine blk_alloc ?_ _)); refine blk_put (cs := #[.string t377, .slice none 0 0, .slice none 0 0]) ?_ 1 _ rfl; (with_reducible repeat (first | refine blk_drewN ?_ _ | refine blk_drew ?_ | refine blk_alloc ?_ _)); refine blk_put (cs := #[.string (⟨#[]⟩ : ByteArray), .slice none 0 0, .slice none 0 0]) ?_ 0 _ rfl; (with_reducible repeat (first | refine blk_drewN ?_ _ | refine blk_drew ?_ | refine blk_alloc ?_ _)); exact BK386.out) hb); have n4_ := Aside0.mk (below_step (by repeat (first | (with_reducible first | exact HB.out | apply below_alloc | apply pw_below_drewN | apply below_drew1 | refine below_set ?_ GE357.out | refine below_set ?_ GE386.out) | exact HB.out)) hb); clear HO380; clear HO383; clear BK357; clear BK386; clear HB; have HO380 := n0_; have HO383 := n1_; have BK357 := n2_; have BK386 := n3_; have HB := n4_; clear n0_ n1_ n2_ n3_ n4_; (try clear hb); (try clear hb2); (try clear hk); (try clear hi)))
       go_ret
       exact ⟨by first | rfl | (simp [errW_none, errW_some] <;> rfl) | (simp [*, errW_none, errW_some] <;> rfl), by repeat (first | (with_reducible first | exact HB.out | apply below_alloc | apply pw_below_drewN | apply below_drew1 | refine below_set ?_ GE357.out | refine below_set ?_ GE386.out) | exact HB.out)⟩

end Go.Proofs.YtpalncojmknlbaaDoor.Y
