/- What Go functions compute, as plain Lean functions, and that the machine comes to just that: written by wip/tools/printx.py (my run of the printer, with contracts of mine beside it). -/
import Derived.Test.YtpalncojmknlbaaDoorDefNode
import Derived.Test.YtpalncojmknlbaaDoorDefWrite
import Derived.Test.YtpalncojmknlbaaDoorAx2
import Derived.Test.YtpalncojmknlbaaDoorYx0
import Derived.Test.YtpalncojmknlbaaDoorYx1
import Derived.Test.YtpalncojmknlbaaDoorYx2
import Derived.Test.YtpalncojmknlbaaDoorYx3
import Derived.Test.YtpalncojmknlbaaDoorYx4
import Derived.Test.YtpalncojmknlbaaDoorYx5
namespace Go.Proofs.YtpalncojmknlbaaDoor.Y
open Go.Proofs.YtpalncojmknlbaaDoor.Ext Go.Proofs.YtpalncojmknlbaaDoor.A Go.RowKit Go.Proofs.YtpalncojmknlbaaDoorW.PrintWords Go.Proofs.YtpalncojmknlbaaDoorW.PrintLast Go.Proofs.YtpalncojmknlbaaDoorW.PrintMore
attribute [local go_sem] max2_int min2_int max_two min_two max_three min_three max_four min_four   -- for this text's walks alone
set_option linter.unusedVariables false
set_option linter.unusedSimpArgs false

attribute [local go_sem high] eqA40 eqA42
/-! ### remontoirlaw17_DefCuts: function 5 -/
mutual
def remontoirlaw17_DefCuts.j0 : Nat → Int → List ByteArray → Bool → ByteArray → List (S40) → List (S42) → Option (Bool)
 | 0, _, _, _, _, _, _ => none
 | k + 1, x1, x7, x40, x392000, x392001, x392002 => if x40 = true then (some false) else (if (x7.length : Int) = 0 then (none) else (remontoirlaw17_DefCuts.l0 k x7 (wrap64 (1 + (Int.tmod (wrap64 (x1)) (x7.length : Int)))) (⟨#[]⟩ : ByteArray) 0 x392000 x392001 x392002))
def remontoirlaw17_DefCuts.l0 : Nat → List ByteArray → Int → ByteArray → Int → ByteArray → List (S40) → List (S42) → Option (Bool)
 | 0, _, _, _, _, _, _, _ => none
 | k + 1, x7, x9, x10, x11, x392000, x392001, x392002 => if x11 < x9 then (if 0 ≤ x11 then (if x11 < (x7.length : Int) then (if (rdOf ByteArray.empty x7 x11).size + 1 ≤ 9223372036854775807 then (if x10.size + ((rdOf ByteArray.empty x7 x11) ++ (⟨#[10]⟩ : ByteArray)).size ≤ 9223372036854775807 then (remontoirlaw17_DefCuts.l0 k x7 x9 (x10 ++ ((rdOf ByteArray.empty x7 x11) ++ (⟨#[10]⟩ : ByteArray))) (wrap64 (x11 + 1)) x392000 x392001 x392002) else (none)) else (none)) else (none)) else (none)) else ((def_Parse.f k x10).bind fun bt402 => (if bt402.2.2.2.2 = 0 then (if bt402.2.2.2.1 = 0 then (if bt402.1.toList = x392000.toList then (if (bt402.2.1.length : Int) = (mn (wrap64 (x9 - 1)) (x392001.length : Int)) then (remontoirlaw17_DefCuts.j2 k x7 x10 ((bt402.2.2.1.length : Int) != (wrap64 ((wrap64 (x9 - 1)) - (bt402.2.1.length : Int)))) x392000 x392001 x392002 bt402.1 bt402.2.1 bt402.2.2.1) else (remontoirlaw17_DefCuts.j2 k x7 x10 true x392000 x392001 x392002 bt402.1 bt402.2.1 bt402.2.2.1)) else (remontoirlaw17_DefCuts.j2 k x7 x10 true x392000 x392001 x392002 bt402.1 bt402.2.1 bt402.2.2.1)) else (remontoirlaw17_DefCuts.j2 k x7 x10 true x392000 x392001 x392002 bt402.1 bt402.2.1 bt402.2.2.1)) else (remontoirlaw17_DefCuts.j2 k x7 x10 true x392000 x392001 x392002 bt402.1 bt402.2.1 bt402.2.2.1)))
def remontoirlaw17_DefCuts.j2 : Nat → List ByteArray → ByteArray → Bool → ByteArray → List (S40) → List (S42) → ByteArray → List (S40) → List (S42) → Option (Bool)
 | 0, _, _, _, _, _, _, _, _, _ => none
 | k + 1, x7, x10, x101, x392000, x392001, x392002, x412000, x412001, x412002 => if x101 = true then (some false) else (remontoirlaw17_DefCuts.l1 k x7 x10 0 x392000 x392001 x392002 x412000 x412001 x412002)
def remontoirlaw17_DefCuts.l1 : Nat → List ByteArray → ByteArray → Int → ByteArray → List (S40) → List (S42) → ByteArray → List (S40) → List (S42) → Option (Bool)
 | 0, _, _, _, _, _, _, _, _, _ => none
 | k + 1, x7, x10, x15, x392000, x392001, x392002, x412000, x412001, x412002 => if x15 < (x412001.length : Int) then (if 0 ≤ x15 then (if x15 < (x392001.length : Int) then (if (!(((rd_T40 x412001 x15).f0) == ((rd_T40 x392001 x15).f0)) || (!(((rd_T40 x412001 x15).f1) == ((rd_T40 x392001 x15).f1)) || (!(((rd_T40 x412001 x15).f2) == ((rd_T40 x392001 x15).f2)) || (!(((rd_T40 x412001 x15).f3) == ((rd_T40 x392001 x15).f3)) || (!((((rd_T40 x412001 x15).f4).toList) == (((rd_T40 x392001 x15).f4).toList))))))) = true then (some false) else (remontoirlaw17_DefCuts.l1 k x7 x10 (wrap64 (x15 + 1)) x392000 x392001 x392002 x412000 x412001 x412002)) else (none)) else (none)) else (remontoirlaw17_DefCuts.l2 k x7 x10 0 x392000 x392001 x392002 x412000 x412001 x412002)
def remontoirlaw17_DefCuts.l2 : Nat → List ByteArray → ByteArray → Int → ByteArray → List (S40) → List (S42) → ByteArray → List (S40) → List (S42) → Option (Bool)
 | 0, _, _, _, _, _, _, _, _, _ => none
 | k + 1, x7, x10, x16, x392000, x392001, x392002, x412000, x412001, x412002 => if x16 < (x412002.length : Int) then (if 0 ≤ x16 then (if x16 < (x392002.length : Int) then (if (!(((rd_T42 x412002 x16).f0) == ((rd_T42 x392002 x16).f0)) || (!(((rd_T42 x412002 x16).f1) == ((rd_T42 x392002 x16).f1)) || (!(((rd_T42 x412002 x16).f2) == ((rd_T42 x392002 x16).f2)) || (!(((rd_T42 x412002 x16).f3) == ((rd_T42 x392002 x16).f3)) || (!((((rd_T42 x412002 x16).f4).toList) == (((rd_T42 x392002 x16).f4).toList))))))) = true then (some false) else (remontoirlaw17_DefCuts.l2 k x7 x10 (wrap64 (x16 + 1)) x392000 x392001 x392002 x412000 x412001 x412002)) else (none)) else (none)) else (if 0 < (x7.length : Int) then (if 0 ≤ (wrap64 (((rdOf ByteArray.empty x7 0).size : Int) + 1)) then (if (wrap64 (((rdOf ByteArray.empty x7 0).size : Int) + 1)) ≤ (x10.size : Int) then ((def_Parse.f k (x10.extract ((wrap64 (((rdOf ByteArray.empty x7 0).size : Int) + 1)) : Int).toNat x10.size)).bind fun bt417 => (if bt417.2.2.2.1 = 1 then (if bt417.2.2.2.2 = 2 then ((remontoirlaw17_wakes.f k).bind fun t426 => (some t426)) else (some false)) else (some false))) else (none)) else (none)) else (none))
end
def remontoirlaw17_DefCuts.f (k : Nat) (a0_0 : ByteArray) (l0_1 : List (S40)) (l0_2 : List (S42)) (a1 : Int) : Option (Bool) := (remontoirkeep_LightDef.f k a0_0 l0_1 l0_2).bind fun t392 => (if t392 = true then ((def_Print.f k a0_0 l0_1 l0_2).bind fun bt394 => (if bt394.2 = true then ((words_Lines.f k bt394.1).bind fun bt397 => (if bt397.2 = 0 then (remontoirlaw17_DefCuts.j0 k a1 bt397.1 ((bt397.1.length : Int) == 0) a0_0 l0_1 l0_2) else (remontoirlaw17_DefCuts.j0 k a1 bt397.1 true a0_0 l0_1 l0_2))) else ((remontoirlaw17_wakes.f k).bind fun t396 => (some t396)))) else ((remontoirlaw17_wakes.f k).bind fun t393 => (some t393)))
theorem remontoirlaw17_DefCuts.mono_l : ∀ k, (∀ y0 y1 y2 y3 y4 y5, LeO (remontoirlaw17_DefCuts.j0 k y0 y1 y2 y3 y4 y5) (remontoirlaw17_DefCuts.j0 (k + 1) y0 y1 y2 y3 y4 y5)) ∧ (∀ y0 y1 y2 y3 y4 y5 y6, LeO (remontoirlaw17_DefCuts.l0 k y0 y1 y2 y3 y4 y5 y6) (remontoirlaw17_DefCuts.l0 (k + 1) y0 y1 y2 y3 y4 y5 y6)) ∧ (∀ y0 y1 y2 y3 y4 y5 y6 y7 y8, LeO (remontoirlaw17_DefCuts.j2 k y0 y1 y2 y3 y4 y5 y6 y7 y8) (remontoirlaw17_DefCuts.j2 (k + 1) y0 y1 y2 y3 y4 y5 y6 y7 y8)) ∧ (∀ y0 y1 y2 y3 y4 y5 y6 y7 y8, LeO (remontoirlaw17_DefCuts.l1 k y0 y1 y2 y3 y4 y5 y6 y7 y8) (remontoirlaw17_DefCuts.l1 (k + 1) y0 y1 y2 y3 y4 y5 y6 y7 y8)) ∧ (∀ y0 y1 y2 y3 y4 y5 y6 y7 y8, LeO (remontoirlaw17_DefCuts.l2 k y0 y1 y2 y3 y4 y5 y6 y7 y8) (remontoirlaw17_DefCuts.l2 (k + 1) y0 y1 y2 y3 y4 y5 y6 y7 y8))
 | 0 => ⟨fun _ _ _ _ _ _ r h => by simp [remontoirlaw17_DefCuts.j0] at h, fun _ _ _ _ _ _ _ r h => by simp [remontoirlaw17_DefCuts.l0] at h, fun _ _ _ _ _ _ _ _ _ r h => by simp [remontoirlaw17_DefCuts.j2] at h, fun _ _ _ _ _ _ _ _ _ r h => by simp [remontoirlaw17_DefCuts.l1] at h, fun _ _ _ _ _ _ _ _ _ r h => by simp [remontoirlaw17_DefCuts.l2] at h⟩
 | k + 1 => by
  obtain ⟨ih0, ih1, ih2, ih3, ih4⟩ := remontoirlaw17_DefCuts.mono_l k
  refine ⟨?_, ?_, ?_, ?_, ?_⟩
  ·
   intro y0 y1 y2 y3 y4 y5
   unfold remontoirlaw17_DefCuts.j0
   repeat' first
   | (with_reducible exact ih0 _ _ _ _ _ _)
   | (with_reducible exact ih1 _ _ _ _ _ _ _)
   | (with_reducible exact ih2 _ _ _ _ _ _ _ _ _)
   | (with_reducible exact ih3 _ _ _ _ _ _ _ _ _)
   | (with_reducible exact ih4 _ _ _ _ _ _ _ _ _)
   | (with_reducible exact def_Parse.mono _ _)
   | (with_reducible exact def_Print.mono _ _ _ _)
   | (with_reducible exact remontoirkeep_LightDef.mono _ _ _ _)
   | (with_reducible exact remontoirlaw17_wakes.mono _)
   | (with_reducible exact words_Lines.mono _ _)
   | (with_reducible exact LeO.refl _)
   | (with_reducible exact LeO.none _)
   | (with_reducible refine LeO.ite ?_ ?_)
   | (with_reducible refine LeO.bind ?_ (fun _ => ?_))
   | exact ih0 _ _ _ _ _ _
   | exact ih1 _ _ _ _ _ _ _
   | exact ih2 _ _ _ _ _ _ _ _ _
   | exact ih3 _ _ _ _ _ _ _ _ _
   | exact ih4 _ _ _ _ _ _ _ _ _
   | exact def_Parse.mono _ _
   | exact def_Print.mono _ _ _ _
   | exact remontoirkeep_LightDef.mono _ _ _ _
   | exact remontoirlaw17_wakes.mono _
   | exact words_Lines.mono _ _
   | exact LeO.none _
   | refine LeO.ite ?_ ?_
   | refine LeO.bind ?_ (fun _ => ?_)
  ·
   intro y0 y1 y2 y3 y4 y5 y6
   unfold remontoirlaw17_DefCuts.l0
   repeat' first
   | (with_reducible exact ih0 _ _ _ _ _ _)
   | (with_reducible exact ih1 _ _ _ _ _ _ _)
   | (with_reducible exact ih2 _ _ _ _ _ _ _ _ _)
   | (with_reducible exact ih3 _ _ _ _ _ _ _ _ _)
   | (with_reducible exact ih4 _ _ _ _ _ _ _ _ _)
   | (with_reducible exact def_Parse.mono _ _)
   | (with_reducible exact def_Print.mono _ _ _ _)
   | (with_reducible exact remontoirkeep_LightDef.mono _ _ _ _)
   | (with_reducible exact remontoirlaw17_wakes.mono _)
   | (with_reducible exact words_Lines.mono _ _)
   | (with_reducible exact LeO.refl _)
   | (with_reducible exact LeO.none _)
   | (with_reducible refine LeO.ite ?_ ?_)
   | (with_reducible refine LeO.bind ?_ (fun _ => ?_))
   | exact ih0 _ _ _ _ _ _
   | exact ih1 _ _ _ _ _ _ _
   | exact ih2 _ _ _ _ _ _ _ _ _
   | exact ih3 _ _ _ _ _ _ _ _ _
   | exact ih4 _ _ _ _ _ _ _ _ _
   | exact def_Parse.mono _ _
   | exact def_Print.mono _ _ _ _
   | exact remontoirkeep_LightDef.mono _ _ _ _
   | exact remontoirlaw17_wakes.mono _
   | exact words_Lines.mono _ _
   | exact LeO.none _
   | refine LeO.ite ?_ ?_
   | refine LeO.bind ?_ (fun _ => ?_)
  ·
   intro y0 y1 y2 y3 y4 y5 y6 y7 y8
   unfold remontoirlaw17_DefCuts.j2
   repeat' first
   | (with_reducible exact ih0 _ _ _ _ _ _)
   | (with_reducible exact ih1 _ _ _ _ _ _ _)
   | (with_reducible exact ih2 _ _ _ _ _ _ _ _ _)
   | (with_reducible exact ih3 _ _ _ _ _ _ _ _ _)
   | (with_reducible exact ih4 _ _ _ _ _ _ _ _ _)
   | (with_reducible exact def_Parse.mono _ _)
   | (with_reducible exact def_Print.mono _ _ _ _)
   | (with_reducible exact remontoirkeep_LightDef.mono _ _ _ _)
   | (with_reducible exact remontoirlaw17_wakes.mono _)
   | (with_reducible exact words_Lines.mono _ _)
   | (with_reducible exact LeO.refl _)
   | (with_reducible exact LeO.none _)
   | (with_reducible refine LeO.ite ?_ ?_)
   | (with_reducible refine LeO.bind ?_ (fun _ => ?_))
   | exact ih0 _ _ _ _ _ _
   | exact ih1 _ _ _ _ _ _ _
   | exact ih2 _ _ _ _ _ _ _ _ _
   | exact ih3 _ _ _ _ _ _ _ _ _
   | exact ih4 _ _ _ _ _ _ _ _ _
   | exact def_Parse.mono _ _
   | exact def_Print.mono _ _ _ _
   | exact remontoirkeep_LightDef.mono _ _ _ _
   | exact remontoirlaw17_wakes.mono _
   | exact words_Lines.mono _ _
   | exact LeO.none _
   | refine LeO.ite ?_ ?_
   | refine LeO.bind ?_ (fun _ => ?_)
  ·
   intro y0 y1 y2 y3 y4 y5 y6 y7 y8
   unfold remontoirlaw17_DefCuts.l1
   repeat' first
   | (with_reducible exact ih0 _ _ _ _ _ _)
   | (with_reducible exact ih1 _ _ _ _ _ _ _)
   | (with_reducible exact ih2 _ _ _ _ _ _ _ _ _)
   | (with_reducible exact ih3 _ _ _ _ _ _ _ _ _)
   | (with_reducible exact ih4 _ _ _ _ _ _ _ _ _)
   | (with_reducible exact def_Parse.mono _ _)
   | (with_reducible exact def_Print.mono _ _ _ _)
   | (with_reducible exact remontoirkeep_LightDef.mono _ _ _ _)
   | (with_reducible exact remontoirlaw17_wakes.mono _)
   | (with_reducible exact words_Lines.mono _ _)
   | (with_reducible exact LeO.refl _)
   | (with_reducible exact LeO.none _)
   | (with_reducible refine LeO.ite ?_ ?_)
   | (with_reducible refine LeO.bind ?_ (fun _ => ?_))
   | exact ih0 _ _ _ _ _ _
   | exact ih1 _ _ _ _ _ _ _
   | exact ih2 _ _ _ _ _ _ _ _ _
   | exact ih3 _ _ _ _ _ _ _ _ _
   | exact ih4 _ _ _ _ _ _ _ _ _
   | exact def_Parse.mono _ _
   | exact def_Print.mono _ _ _ _
   | exact remontoirkeep_LightDef.mono _ _ _ _
   | exact remontoirlaw17_wakes.mono _
   | exact words_Lines.mono _ _
   | exact LeO.none _
   | refine LeO.ite ?_ ?_
   | refine LeO.bind ?_ (fun _ => ?_)
  ·
   intro y0 y1 y2 y3 y4 y5 y6 y7 y8
   unfold remontoirlaw17_DefCuts.l2
   repeat' first
   | (with_reducible exact ih0 _ _ _ _ _ _)
   | (with_reducible exact ih1 _ _ _ _ _ _ _)
   | (with_reducible exact ih2 _ _ _ _ _ _ _ _ _)
   | (with_reducible exact ih3 _ _ _ _ _ _ _ _ _)
   | (with_reducible exact ih4 _ _ _ _ _ _ _ _ _)
   | (with_reducible exact def_Parse.mono _ _)
   | (with_reducible exact def_Print.mono _ _ _ _)
   | (with_reducible exact remontoirkeep_LightDef.mono _ _ _ _)
   | (with_reducible exact remontoirlaw17_wakes.mono _)
   | (with_reducible exact words_Lines.mono _ _)
   | (with_reducible exact LeO.refl _)
   | (with_reducible exact LeO.none _)
   | (with_reducible refine LeO.ite ?_ ?_)
   | (with_reducible refine LeO.bind ?_ (fun _ => ?_))
   | exact ih0 _ _ _ _ _ _
   | exact ih1 _ _ _ _ _ _ _
   | exact ih2 _ _ _ _ _ _ _ _ _
   | exact ih3 _ _ _ _ _ _ _ _ _
   | exact ih4 _ _ _ _ _ _ _ _ _
   | exact def_Parse.mono _ _
   | exact def_Print.mono _ _ _ _
   | exact remontoirkeep_LightDef.mono _ _ _ _
   | exact remontoirlaw17_wakes.mono _
   | exact words_Lines.mono _ _
   | exact LeO.none _
   | refine LeO.ite ?_ ?_
   | refine LeO.bind ?_ (fun _ => ?_)
theorem remontoirlaw17_DefCuts.mono : ∀ a0 a1 a2 a3 k, LeO (remontoirlaw17_DefCuts.f k a0 a1 a2 a3) (remontoirlaw17_DefCuts.f (k + 1) a0 a1 a2 a3) := by
 intro a0 a1 a2 a3 k
 obtain ⟨ih0, ih1, ih2, ih3, ih4⟩ := remontoirlaw17_DefCuts.mono_l k
 unfold remontoirlaw17_DefCuts.f
 repeat' first
   | (with_reducible exact ih0 _ _ _ _ _ _)
   | (with_reducible exact ih1 _ _ _ _ _ _ _)
   | (with_reducible exact ih2 _ _ _ _ _ _ _ _ _)
   | (with_reducible exact ih3 _ _ _ _ _ _ _ _ _)
   | (with_reducible exact ih4 _ _ _ _ _ _ _ _ _)
   | (with_reducible exact def_Parse.mono _ _)
   | (with_reducible exact def_Print.mono _ _ _ _)
   | (with_reducible exact remontoirkeep_LightDef.mono _ _ _ _)
   | (with_reducible exact remontoirlaw17_wakes.mono _)
   | (with_reducible exact words_Lines.mono _ _)
   | (with_reducible exact LeO.refl _)
   | (with_reducible exact LeO.none _)
   | (with_reducible refine LeO.ite ?_ ?_)
   | (with_reducible refine LeO.bind ?_ (fun _ => ?_))
   | exact ih0 _ _ _ _ _ _
   | exact ih1 _ _ _ _ _ _ _
   | exact ih2 _ _ _ _ _ _ _ _ _
   | exact ih3 _ _ _ _ _ _ _ _ _
   | exact ih4 _ _ _ _ _ _ _ _ _
   | exact def_Parse.mono _ _
   | exact def_Print.mono _ _ _ _
   | exact remontoirkeep_LightDef.mono _ _ _ _
   | exact remontoirlaw17_wakes.mono _
   | exact words_Lines.mono _ _
   | exact LeO.none _
   | refine LeO.ite ?_ ?_
   | refine LeO.bind ?_ (fun _ => ?_)
set_option maxHeartbeats 8000000 in
set_option maxRecDepth 100000 in
theorem remontoirlaw17_DefCuts.calls (k : Nat) (a0_0 : ByteArray) (A0_1 : Option Addr) (c0_1 : Nat) (l0_1 : List (S40)) (A0_2 : Option Addr) (c0_2 : Nat) (l0_2 : List (S42)) (a1 : Int) (r : Bool) (w : World) (hTab : Tab w) (hr0_1 : Kd.C k40 w A0_1 l0_1.length l0_1) (hc0_1 : l0_1.length ≤ c0_1) (hr0_2 : Kd.C k42 w A0_2 l0_2.length l0_2) (hc0_2 : l0_2.length ≤ c0_2) (hr_ : r = true) (h : remontoirlaw17_DefCuts.f k a0_0 l0_1 l0_2 a1 = some r) :
  Calls Tryd.prog 5 #[.agg #[.string a0_0, .slice A0_1 l0_1.length c0_1, .slice A0_2 l0_2.length c0_2], .int .u8 a1] w fun e w' => e = .returned (.bool r) ∧ Below w.heap.size w w' := by
 have hu25 := Tryd.underlying25
 have hu40 := Tryd.underlying40
 have hu42 := Tryd.underlying42
 have HR0_1 := Aside0.mk hr0_1
 have HC0_1 := Aside0.mk hc0_1
 clear hr0_1 hc0_1
 have HR0_2 := Aside0.mk hr0_2
 have HC0_2 := Aside0.mk hc0_2
 clear hr0_2 hc0_2
 have HB := Aside0.mk (Below.refl w.heap.size w)
 have H : ((remontoirkeep_LightDef.f k a0_0 l0_1 l0_2).bind fun t392 => (if t392 = true then ((def_Print.f k a0_0 l0_1 l0_2).bind fun bt394 => (if bt394.2 = true then ((words_Lines.f k bt394.1).bind fun bt397 => (if bt397.2 = 0 then (remontoirlaw17_DefCuts.j0 k a1 bt397.1 ((bt397.1.length : Int) == 0) a0_0 l0_1 l0_2) else (remontoirlaw17_DefCuts.j0 k a1 bt397.1 true a0_0 l0_1 l0_2))) else ((remontoirlaw17_wakes.f k).bind fun t396 => (some t396)))) else ((remontoirlaw17_wakes.f k).bind fun t393 => (some t393)))) = some r := h
 clear h
 replace H := Option.bind_eq_some_iff.mp H
 obtain ⟨t392, A30, H⟩ := H
 replace H : (if t392 = true then ((def_Print.f k a0_0 l0_1 l0_2).bind fun bt394 => (if bt394.2 = true then ((words_Lines.f k bt394.1).bind fun bt397 => (if bt397.2 = 0 then (remontoirlaw17_DefCuts.j0 k a1 bt397.1 ((bt397.1.length : Int) == 0) a0_0 l0_1 l0_2) else (remontoirlaw17_DefCuts.j0 k a1 bt397.1 true a0_0 l0_1 l0_2))) else ((remontoirlaw17_wakes.f k).bind fun t396 => (some t396)))) else ((remontoirlaw17_wakes.f k).bind fun t393 => (some t393))) = some r := H
 have A3 := Aside0.mk A30
 clear A30
 by_cases c4 : t392 = true
 ·
  subst c4
  have H1 : ((def_Print.f k a0_0 l0_1 l0_2).bind fun bt394 => (if bt394.2 = true then ((words_Lines.f k bt394.1).bind fun bt397 => (if bt397.2 = 0 then (remontoirlaw17_DefCuts.j0 k a1 bt397.1 ((bt397.1.length : Int) == 0) a0_0 l0_1 l0_2) else (remontoirlaw17_DefCuts.j0 k a1 bt397.1 true a0_0 l0_1 l0_2))) else ((remontoirlaw17_wakes.f k).bind fun t396 => (some t396)))) = some r := by rw [if_pos rfl] at H; exact H
  clear H
  have H := H1
  clear H1
  replace H := Option.bind_eq_some_iff.mp H
  obtain ⟨⟨t394, t395⟩, A50, H⟩ := H
  replace H : (if t395 = true then ((words_Lines.f k t394).bind fun bt397 => (if bt397.2 = 0 then (remontoirlaw17_DefCuts.j0 k a1 bt397.1 ((bt397.1.length : Int) == 0) a0_0 l0_1 l0_2) else (remontoirlaw17_DefCuts.j0 k a1 bt397.1 true a0_0 l0_1 l0_2))) else ((remontoirlaw17_wakes.f k).bind fun t396 => (some t396))) = some r := H
  have A5 := Aside0.mk A50
  clear A50
  by_cases c6 : t395 = true
  ·
   subst c6
   have H1 : ((words_Lines.f k t394).bind fun bt397 => (if bt397.2 = 0 then (remontoirlaw17_DefCuts.j0 k a1 bt397.1 ((bt397.1.length : Int) == 0) a0_0 l0_1 l0_2) else (remontoirlaw17_DefCuts.j0 k a1 bt397.1 true a0_0 l0_1 l0_2))) = some r := by rw [if_pos rfl] at H; exact H
   clear H
   have H := H1
   clear H1
   replace H := Option.bind_eq_some_iff.mp H
   obtain ⟨⟨t397, t398⟩, A70, H⟩ := H
   replace H : (if t398 = 0 then (remontoirlaw17_DefCuts.j0 k a1 t397 ((t397.length : Int) == 0) a0_0 l0_1 l0_2) else (remontoirlaw17_DefCuts.j0 k a1 t397 true a0_0 l0_1 l0_2)) = some r := H
   have A7 := Aside0.mk A70
   clear A70
   have HC8 := Aside0.mk H
   clear H
   go_enter Tryd.func5, Tryd.ntmps5
   go_upto_region 7 with (first | ((with_reducible refine gate_dst (N := 2) rfl ?_); (try (refine gate_guard (by rfl) ?_; dsimp only)); refine box_event ?hg (N := 2) ?hd (cs := #[.string a0_0, .slice A0_1 l0_1.length c0_1, .slice A0_2 l0_2.length c0_2]) (t := 25) ?hr ?_; (case hd => rfl); (case hg => rfl); (case hr => first | (go_simp; done) | (go_simp; rfl)); intro gb391 hg w9 hbox hb; have n0_ := Aside0.mk (below_step (by repeat (first | (with_reducible first | exact HB.out | apply below_alloc | apply pw_below_drewN | apply below_drew1) | exact HB.out)) hb); have n1_ := Aside0.mk (hbox); have n2_ := Aside0.mk ((by rw [hg]; exact (below_size (by repeat (first | (with_reducible first | exact HB.out | apply below_alloc | apply pw_below_drewN | apply below_drew1) | exact HB.out))) : w.heap.size ≤ gb391)); have n3_ := Aside0.mk ((by rw [hg]; exact (below_size (by repeat (first | (with_reducible first | exact HB.out | apply below_alloc | apply pw_below_drewN | apply below_drew1) | exact HB.out))) : w.heap.size ≤ gb391)); clear HB; have HB := n0_; have BK391 := n1_; have GW391 := n2_; have GE391 := n3_; clear n0_ n1_ n2_ n3_; clear hb hbox hg; have hcz10_0 : w9.cell? ⟨gb391, 0, none⟩ = some (.string a0_0) := (blk_cell BK391.out 0).trans rfl; have hcz10_1 : w9.cell? ⟨gb391, 1, none⟩ = some (.slice A0_1 l0_1.length c0_1) := (blk_cell BK391.out 1).trans rfl; have hcz10_2 : w9.cell? ⟨gb391, 2, none⟩ = some (.slice A0_2 l0_2.length c0_2) := (blk_cell BK391.out 2).trans rfl; have hfz10_0 := blk_frozen BK391.out 0; have hfz10_1 := blk_frozen BK391.out 1; have hfz10_2 := blk_frozen BK391.out 2) | (go_at_call 8; (with_reducible refine (remontoirkeep_LightDef.calls k a0_0 _ _ l0_1 _ _ l0_2 true _ ?side1 ?side2 ?side3 ?side4 A3.out).mono ?_); (case side1 => repeat (first | exact (Kd.C_below HR0_1.out HB.out) | (with_reducible refine Kd.C_alloc ?_ _) | (with_reducible refine Kd.C_drewN ?_ _) | (with_reducible refine Kd.C_drew ?_))); (case side2 => exact HC0_1.out); (case side3 => repeat (first | exact (Kd.C_below HR0_2.out HB.out) | (with_reducible refine Kd.C_alloc ?_ _) | (with_reducible refine Kd.C_drewN ?_ _) | (with_reducible refine Kd.C_drew ?_))); (case side4 => exact HC0_2.out); rintro e w11 ⟨rfl, hb⟩; have n0_ := Aside0.mk (blk_below (g := gb391) (o := .cells #[.string a0_0, .slice A0_1 l0_1.length c0_1, .slice A0_2 l0_2.length c0_2] 25 (0, 0)) (by (with_reducible repeat (first | refine blk_drewN ?_ _ | refine blk_drew ?_ | refine blk_alloc ?_ _)); exact BK391.out) hb); have n1_ := Aside0.mk (below_step (by repeat (first | (with_reducible first | exact HB.out | apply below_alloc | apply pw_below_drewN | apply below_drew1 | refine below_set ?_ GE391.out) | exact HB.out)) hb); clear BK391; clear HB; have BK391 := n0_; have HB := n1_; clear n0_ n1_; (try clear hb); (try clear hb2); (try clear hk); (try clear hi); have hcz12_0 : w11.cell? ⟨gb391, 0, none⟩ = some (.string a0_0) := (blk_cell BK391.out 0).trans rfl; have hcz12_1 : w11.cell? ⟨gb391, 1, none⟩ = some (.slice A0_1 l0_1.length c0_1) := (blk_cell BK391.out 1).trans rfl; have hcz12_2 : w11.cell? ⟨gb391, 2, none⟩ = some (.slice A0_2 l0_2.length c0_2) := (blk_cell BK391.out 2).trans rfl; have hfz12_0 := blk_frozen BK391.out 0; have hfz12_1 := blk_frozen BK391.out 1; have hfz12_2 := blk_frozen BK391.out 2) | (go_at_call 10; (with_reducible refine (def_Print.calls k a0_0 _ _ l0_1 _ _ l0_2 t394 true _ (Tab.below hTab (by repeat (first | exact HB.out | apply below_alloc | apply pw_below_drewN | apply below_drew1 | (refine below_set ?_ (Aside0.out ?_) <;> (first | assumption | skip)))))  ?side1 ?side2 ?side3 ?side4 A5.out).mono ?_); (case side1 => repeat (first | exact (Kd.C_below HR0_1.out HB.out) | (with_reducible refine Kd.C_alloc ?_ _) | (with_reducible refine Kd.C_drewN ?_ _) | (with_reducible refine Kd.C_drew ?_))); (case side2 => exact HC0_1.out); (case side3 => repeat (first | exact (Kd.C_below HR0_2.out HB.out) | (with_reducible refine Kd.C_alloc ?_ _) | (with_reducible refine Kd.C_drewN ?_ _) | (with_reducible refine Kd.C_drew ?_))); (case side4 => exact HC0_2.out); rintro e w13 ⟨rfl, hb⟩; have n0_ := Aside0.mk (blk_below (g := gb391) (o := .cells #[.string a0_0, .slice A0_1 l0_1.length c0_1, .slice A0_2 l0_2.length c0_2] 25 (0, 0)) (by (with_reducible repeat (first | refine blk_drewN ?_ _ | refine blk_drew ?_ | refine blk_alloc ?_ _)); exact BK391.out) hb); have n1_ := Aside0.mk (below_step (by repeat (first | (with_reducible first | exact HB.out | apply below_alloc | apply pw_below_drewN | apply below_drew1 | refine below_set ?_ GE391.out) | exact HB.out)) hb); clear BK391; clear HB; have BK391 := n0_; have HB := n1_; clear n0_ n1_; (try clear hb); (try clear hb2); (try clear hk); (try clear hi)) | (go_at_call 13; (with_reducible refine (words_Lines.calls k t394 t397 t398 _ A7.out).mono ?_); rintro e w14 ⟨v399, rfl, ho0, hb⟩; have n0_ := Aside0.mk (Kd.R_lower ho0 (below_size (by repeat (first | (with_reducible first | exact HB.out | apply below_alloc | apply pw_below_drewN | apply below_drew1 | refine below_set ?_ GE391.out) | exact HB.out)))); have n1_ := Aside0.mk (blk_below (g := gb391) (o := .cells #[.string a0_0, .slice A0_1 l0_1.length c0_1, .slice A0_2 l0_2.length c0_2] 25 (0, 0)) (by (with_reducible repeat (first | refine blk_drewN ?_ _ | refine blk_drew ?_ | refine blk_alloc ?_ _)); exact BK391.out) hb); have n2_ := Aside0.mk (below_step (by repeat (first | (with_reducible first | exact HB.out | apply below_alloc | apply pw_below_drewN | apply below_drew1 | refine below_set ?_ GE391.out) | exact HB.out)) hb); clear BK391; clear HB; have HO400 := n0_; have BK391 := n1_; have HB := n2_; clear n0_ n1_ n2_; (try clear hb); (try clear hb2); (try clear hk); (try clear hi); (try clear ho0)))
   repeat (go_quiet (first | ((with_reducible refine gate_dst (N := 2) rfl ?_); (try (refine gate_guard (by rfl) ?_; dsimp only)); refine box_event ?hg (N := 2) ?hd (cs := #[.string a0_0, .slice A0_1 l0_1.length c0_1, .slice A0_2 l0_2.length c0_2]) (t := 25) ?hr ?_; (case hd => rfl); (case hg => rfl); (case hr => first | (go_simp; done) | (go_simp; rfl)); intro gb391 hg w9 hbox hb; have n0_ := Aside0.mk (below_step (by repeat (first | (with_reducible first | exact HB.out | apply below_alloc | apply pw_below_drewN | apply below_drew1) | exact HB.out)) hb); have n1_ := Aside0.mk (hbox); have n2_ := Aside0.mk ((by rw [hg]; exact (below_size (by repeat (first | (with_reducible first | exact HB.out | apply below_alloc | apply pw_below_drewN | apply below_drew1) | exact HB.out))) : w.heap.size ≤ gb391)); have n3_ := Aside0.mk ((by rw [hg]; exact (below_size (by repeat (first | (with_reducible first | exact HB.out | apply below_alloc | apply pw_below_drewN | apply below_drew1) | exact HB.out))) : w.heap.size ≤ gb391)); clear HB; have HB := n0_; have BK391 := n1_; have GW391 := n2_; have GE391 := n3_; clear n0_ n1_ n2_ n3_; clear hb hbox hg; have hcz10_0 : w9.cell? ⟨gb391, 0, none⟩ = some (.string a0_0) := (blk_cell BK391.out 0).trans rfl; have hcz10_1 : w9.cell? ⟨gb391, 1, none⟩ = some (.slice A0_1 l0_1.length c0_1) := (blk_cell BK391.out 1).trans rfl; have hcz10_2 : w9.cell? ⟨gb391, 2, none⟩ = some (.slice A0_2 l0_2.length c0_2) := (blk_cell BK391.out 2).trans rfl; have hfz10_0 := blk_frozen BK391.out 0; have hfz10_1 := blk_frozen BK391.out 1; have hfz10_2 := blk_frozen BK391.out 2) | (go_at_call 8; (with_reducible refine (remontoirkeep_LightDef.calls k a0_0 _ _ l0_1 _ _ l0_2 true _ ?side1 ?side2 ?side3 ?side4 A3.out).mono ?_); (case side1 => repeat (first | exact (Kd.C_below HR0_1.out HB.out) | (with_reducible refine Kd.C_alloc ?_ _) | (with_reducible refine Kd.C_drewN ?_ _) | (with_reducible refine Kd.C_drew ?_))); (case side2 => exact HC0_1.out); (case side3 => repeat (first | exact (Kd.C_below HR0_2.out HB.out) | (with_reducible refine Kd.C_alloc ?_ _) | (with_reducible refine Kd.C_drewN ?_ _) | (with_reducible refine Kd.C_drew ?_))); (case side4 => exact HC0_2.out); rintro e w11 ⟨rfl, hb⟩; have n0_ := Aside0.mk (blk_below (g := gb391) (o := .cells #[.string a0_0, .slice A0_1 l0_1.length c0_1, .slice A0_2 l0_2.length c0_2] 25 (0, 0)) (by (with_reducible repeat (first | refine blk_drewN ?_ _ | refine blk_drew ?_ | refine blk_alloc ?_ _)); exact BK391.out) hb); have n1_ := Aside0.mk (below_step (by repeat (first | (with_reducible first | exact HB.out | apply below_alloc | apply pw_below_drewN | apply below_drew1 | refine below_set ?_ GE391.out) | exact HB.out)) hb); clear BK391; clear HB; have BK391 := n0_; have HB := n1_; clear n0_ n1_; (try clear hb); (try clear hb2); (try clear hk); (try clear hi); have hcz12_0 : w11.cell? ⟨gb391, 0, none⟩ = some (.string a0_0) := (blk_cell BK391.out 0).trans rfl; have hcz12_1 : w11.cell? ⟨gb391, 1, none⟩ = some (.slice A0_1 l0_1.length c0_1) := (blk_cell BK391.out 1).trans rfl; have hcz12_2 : w11.cell? ⟨gb391, 2, none⟩ = some (.slice A0_2 l0_2.length c0_2) := (blk_cell BK391.out 2).trans rfl; have hfz12_0 := blk_frozen BK391.out 0; have hfz12_1 := blk_frozen BK391.out 1; have hfz12_2 := blk_frozen BK391.out 2) | (go_at_call 10; (with_reducible refine (def_Print.calls k a0_0 _ _ l0_1 _ _ l0_2 t394 true _ (Tab.below hTab (by repeat (first | exact HB.out | apply below_alloc | apply pw_below_drewN | apply below_drew1 | (refine below_set ?_ (Aside0.out ?_) <;> (first | assumption | skip)))))  ?side1 ?side2 ?side3 ?side4 A5.out).mono ?_); (case side1 => repeat (first | exact (Kd.C_below HR0_1.out HB.out) | (with_reducible refine Kd.C_alloc ?_ _) | (with_reducible refine Kd.C_drewN ?_ _) | (with_reducible refine Kd.C_drew ?_))); (case side2 => exact HC0_1.out); (case side3 => repeat (first | exact (Kd.C_below HR0_2.out HB.out) | (with_reducible refine Kd.C_alloc ?_ _) | (with_reducible refine Kd.C_drewN ?_ _) | (with_reducible refine Kd.C_drew ?_))); (case side4 => exact HC0_2.out); rintro e w13 ⟨rfl, hb⟩; have n0_ := Aside0.mk (blk_below (g := gb391) (o := .cells #[.string a0_0, .slice A0_1 l0_1.length c0_1, .slice A0_2 l0_2.length c0_2] 25 (0, 0)) (by (with_reducible repeat (first | refine blk_drewN ?_ _ | refine blk_drew ?_ | refine blk_alloc ?_ _)); exact BK391.out) hb); have n1_ := Aside0.mk (below_step (by repeat (first | (with_reducible first | exact HB.out | apply below_alloc | apply pw_below_drewN | apply below_drew1 | refine below_set ?_ GE391.out) | exact HB.out)) hb); clear BK391; clear HB; have BK391 := n0_; have HB := n1_; clear n0_ n1_; (try clear hb); (try clear hb2); (try clear hk); (try clear hi)) | (go_at_call 13; (with_reducible refine (words_Lines.calls k t394 t397 t398 _ A7.out).mono ?_); rintro e w14 ⟨v399, rfl, ho0, hb⟩; have n0_ := Aside0.mk (Kd.R_lower ho0 (below_size (by repeat (first | (with_reducible first | exact HB.out | apply below_alloc | apply pw_below_drewN | apply below_drew1 | refine below_set ?_ GE391.out) | exact HB.out)))); have n1_ := Aside0.mk (blk_below (g := gb391) (o := .cells #[.string a0_0, .slice A0_1 l0_1.length c0_1, .slice A0_2 l0_2.length c0_2] 25 (0, 0)) (by (with_reducible repeat (first | refine blk_drewN ?_ _ | refine blk_drew ?_ | refine blk_alloc ?_ _)); exact BK391.out) hb); have n2_ := Aside0.mk (below_step (by repeat (first | (with_reducible first | exact HB.out | apply below_alloc | apply pw_below_drewN | apply below_drew1 | refine below_set ?_ GE391.out) | exact HB.out)) hb); clear BK391; clear HB; have HO400 := n0_; have BK391 := n1_; have HB := n2_; clear n0_ n1_ n2_; (try clear hb); (try clear hb2); (try clear hk); (try clear hi); (try clear ho0))); go_upto_region 7 with (first | ((with_reducible refine gate_dst (N := 2) rfl ?_); (try (refine gate_guard (by rfl) ?_; dsimp only)); refine box_event ?hg (N := 2) ?hd (cs := #[.string a0_0, .slice A0_1 l0_1.length c0_1, .slice A0_2 l0_2.length c0_2]) (t := 25) ?hr ?_; (case hd => rfl); (case hg => rfl); (case hr => first | (go_simp; done) | (go_simp; rfl)); intro gb391 hg w9 hbox hb; have n0_ := Aside0.mk (below_step (by repeat (first | (with_reducible first | exact HB.out | apply below_alloc | apply pw_below_drewN | apply below_drew1) | exact HB.out)) hb); have n1_ := Aside0.mk (hbox); have n2_ := Aside0.mk ((by rw [hg]; exact (below_size (by repeat (first | (with_reducible first | exact HB.out | apply below_alloc | apply pw_below_drewN | apply below_drew1) | exact HB.out))) : w.heap.size ≤ gb391)); have n3_ := Aside0.mk ((by rw [hg]; exact (below_size (by repeat (first | (with_reducible first | exact HB.out | apply below_alloc | apply pw_below_drewN | apply below_drew1) | exact HB.out))) : w.heap.size ≤ gb391)); clear HB; have HB := n0_; have BK391 := n1_; have GW391 := n2_; have GE391 := n3_; clear n0_ n1_ n2_ n3_; clear hb hbox hg; have hcz10_0 : w9.cell? ⟨gb391, 0, none⟩ = some (.string a0_0) := (blk_cell BK391.out 0).trans rfl; have hcz10_1 : w9.cell? ⟨gb391, 1, none⟩ = some (.slice A0_1 l0_1.length c0_1) := (blk_cell BK391.out 1).trans rfl; have hcz10_2 : w9.cell? ⟨gb391, 2, none⟩ = some (.slice A0_2 l0_2.length c0_2) := (blk_cell BK391.out 2).trans rfl; have hfz10_0 := blk_frozen BK391.out 0; have hfz10_1 := blk_frozen BK391.out 1; have hfz10_2 := blk_frozen BK391.out 2) | (go_at_call 8; (with_reducible refine (remontoirkeep_LightDef.calls k a0_0 _ _ l0_1 _ _ l0_2 true _ ?side1 ?side2 ?side3 ?side4 A3.out).mono ?_); (case side1 => repeat (first | exact (Kd.C_below HR0_1.out HB.out) | (with_reducible refine Kd.C_alloc ?_ _) | (with_reducible refine Kd.C_drewN ?_ _) | (with_reducible refine Kd.C_drew ?_))); (case side2 => exact HC0_1.out); (case side3 => repeat (first | exact (Kd.C_below HR0_2.out HB.out) | (with_reducible refine Kd.C_alloc ?_ _) | (with_reducible refine Kd.C_drewN ?_ _) | (with_reducible refine Kd.C_drew ?_))); (case side4 => exact HC0_2.out); rintro e w11 ⟨rfl, hb⟩; have n0_ := Aside0.mk (blk_below (g := gb391) (o := .cells #[.string a0_0, .slice A0_1 l0_1.length c0_1, .slice A0_2 l0_2.length c0_2] 25 (0, 0)) (by (with_reducible repeat (first | refine blk_drewN ?_ _ | refine blk_drew ?_ | refine blk_alloc ?_ _)); exact BK391.out) hb); have n1_ := Aside0.mk (below_step (by repeat (first | (with_reducible first | exact HB.out | apply below_alloc | apply pw_below_drewN | apply below_drew1 | refine below_set ?_ GE391.out) | exact HB.out)) hb); clear BK391; clear HB; have BK391 := n0_; have HB := n1_; clear n0_ n1_; (try clear hb); (try clear hb2); (try clear hk); (try clear hi); have hcz12_0 : w11.cell? ⟨gb391, 0, none⟩ = some (.string a0_0) := (blk_cell BK391.out 0).trans rfl; have hcz12_1 : w11.cell? ⟨gb391, 1, none⟩ = some (.slice A0_1 l0_1.length c0_1) := (blk_cell BK391.out 1).trans rfl; have hcz12_2 : w11.cell? ⟨gb391, 2, none⟩ = some (.slice A0_2 l0_2.length c0_2) := (blk_cell BK391.out 2).trans rfl; have hfz12_0 := blk_frozen BK391.out 0; have hfz12_1 := blk_frozen BK391.out 1; have hfz12_2 := blk_frozen BK391.out 2) | (go_at_call 10; (with_reducible refine (def_Print.calls k a0_0 _ _ l0_1 _ _ l0_2 t394 true _ (Tab.below hTab (by repeat (first | exact HB.out | apply below_alloc | apply pw_below_drewN | apply below_drew1 | (refine below_set ?_ (Aside0.out ?_) <;> (first | assumption | skip)))))  ?side1 ?side2 ?side3 ?side4 A5.out).mono ?_); (case side1 => repeat (first | exact (Kd.C_below HR0_1.out HB.out) | (with_reducible refine Kd.C_alloc ?_ _) | (with_reducible refine Kd.C_drewN ?_ _) | (with_reducible refine Kd.C_drew ?_))); (case side2 => exact HC0_1.out); (case side3 => repeat (first | exact (Kd.C_below HR0_2.out HB.out) | (with_reducible refine Kd.C_alloc ?_ _) | (with_reducible refine Kd.C_drewN ?_ _) | (with_reducible refine Kd.C_drew ?_))); (case side4 => exact HC0_2.out); rintro e w13 ⟨rfl, hb⟩; have n0_ := Aside0.mk (blk_below (g := gb391) (o := .cells #[.string a0_0, .slice A0_1 l0_1.length c0_1, .slice A0_2 l0_2.length c0_2] 25 (0, 0)) (by (with_reducible repeat (first | refine blk_drewN ?_ _ | refine blk_drew ?_ | refine blk_alloc ?_ _)); exact BK391.out) hb); have n1_ := Aside0.mk (below_step (by repeat (first | (with_reducible first | exact HB.out | apply below_alloc | apply pw_below_drewN | apply below_drew1 | refine below_set ?_ GE391.out) | exact HB.out)) hb); clear BK391; clear HB; have BK391 := n0_; have HB := n1_; clear n0_ n1_; (try clear hb); (try clear hb2); (try clear hk); (try clear hi)) | (go_at_call 13; (with_reducible refine (words_Lines.calls k t394 t397 t398 _ A7.out).mono ?_); rintro e w14 ⟨v399, rfl, ho0, hb⟩; have n0_ := Aside0.mk (Kd.R_lower ho0 (below_size (by repeat (first | (with_reducible first | exact HB.out | apply below_alloc | apply pw_below_drewN | apply below_drew1 | refine below_set ?_ GE391.out) | exact HB.out)))); have n1_ := Aside0.mk (blk_below (g := gb391) (o := .cells #[.string a0_0, .slice A0_1 l0_1.length c0_1, .slice A0_2 l0_2.length c0_2] 25 (0, 0)) (by (with_reducible repeat (first | refine blk_drewN ?_ _ | refine blk_drew ?_ | refine blk_alloc ?_ _)); exact BK391.out) hb); have n2_ := Aside0.mk (below_step (by repeat (first | (with_reducible first | exact HB.out | apply below_alloc | apply pw_below_drewN | apply below_drew1 | refine below_set ?_ GE391.out) | exact HB.out)) hb); clear BK391; clear HB; have HO400 := n0_; have BK391 := n1_; have HB := n2_; clear n0_ n1_ n2_; (try clear hb); (try clear hb2); (try clear hk); (try clear hi); (try clear ho0))))
   (try simp only [Act.put, List.setIfInBounds_toArray, List.set_cons_zero, List.set_cons_succ])
   go_cut [40] (fun v40 wc => ∃ (kq : Nat) (x40_7 : Bool), v40 = .bool x40_7 ∧ Aside0 (remontoirlaw17_DefCuts.j0 kq a1 t397 x40_7 a0_0 l0_1 l0_2 = some r) ∧ Aside0 (kq ≤ k) ∧ Aside0 (Kd.R Kd.string 9 wc w.heap.size (fun _ => True) v399 t397) ∧ Aside0 (wc.heap[gb391]? = some (.cells #[.string a0_0, (.slice A0_1 l0_1.length c0_1), (.slice A0_2 l0_2.length c0_2)] 25 (0, 0))) ∧ Aside0 (Below w.heap.size w wc))
   case first =>
    have H := HC8.out
    clear HC8
    by_cases c15 : t398 = 0
    ·
     rw [if_pos c15] at H
     have c15b0 : (t398 == 0) = true := beq_iff_eq.mpr c15
     have c15b1 : (t398 != 0) = false := bne_eq_false_iff_eq.mpr c15
     clear c15
     (first | rw [c15b0] | (simp only [i64_w, i32_w]; rw [c15b0]) | skip)
     have H' := Aside0.mk H
     clear H
     obtain ⟨Ao16, co16, eo16⟩ := Kd.R_slice HO400.out
     subst eo16
     go_wp2
     repeat (go_quiet (fail); try go_wp2)
     go_meet
     case rel => exact ⟨_, (((t397.length : Int) == 0)), (by first | rfl | (simp; done) | (simp [*]; done)), H', ⟨by first | omega | exact Nat.le_refl _⟩, ⟨by (with_reducible repeat (first | apply Kd.R_alloc | apply Kd.R_drewN | apply Kd.R_drew)); exact HO400.out⟩, ⟨by (with_reducible repeat (first | refine blk_drewN ?_ _ | refine blk_drew ?_ | refine blk_alloc ?_ _)); exact BK391.out⟩, ⟨by repeat (first | (with_reducible first | exact HB.out | apply below_alloc | apply pw_below_drewN | apply below_drew1 | refine below_set ?_ GE391.out) | exact HB.out)⟩⟩
    ·
     rw [if_neg c15] at H
     have c15b0 : (t398 == 0) = false := beq_eq_false_iff_ne.mpr c15
     have c15b1 : (t398 != 0) = true := bne_iff_ne.mpr c15
     (first | rw [c15b0] | (simp only [i64_w, i32_w]; rw [c15b0]) | skip)
     have H' := Aside0.mk H
     clear H
     go_wp2
     repeat (go_quiet (fail); try go_wp2)
     go_meet
     case rel => exact ⟨_, (true), (by first | rfl | (simp; done) | (simp [*]; done)), H', ⟨by first | omega | exact Nat.le_refl _⟩, ⟨by (with_reducible repeat (first | apply Kd.R_alloc | apply Kd.R_drewN | apply Kd.R_drew)); exact HO400.out⟩, ⟨by (with_reducible repeat (first | refine blk_drewN ?_ _ | refine blk_drew ?_ | refine blk_alloc ?_ _)); exact BK391.out⟩, ⟨by repeat (first | (with_reducible first | exact HB.out | apply below_alloc | apply pw_below_drewN | apply below_drew1 | refine below_set ?_ GE391.out) | exact HB.out)⟩⟩
   case rest =>
    clear HC8
    try clear c1
    try clear p2
    try clear c4
    try clear c5
    try clear c6
    try clear c15
    try clear c15b0
    try clear c15b1
    try clear hcz10_0
    try clear hcz10_1
    try clear hcz10_2
    try clear hcz12_0
    try clear hcz12_1
    try clear hcz12_2
    try clear hfz10_0
    try clear hfz10_1
    try clear hfz10_2
    try clear hfz12_0
    try clear hfz12_1
    try clear hfz12_2
    obtain ⟨kq, x40_7, rfl, HA, HJ7, HO_7, BK391, HB⟩ := hcut
    cases kq with
    | zero => exact absurd HA.out (by simp [remontoirlaw17_DefCuts.j0])
    | succ kj7 =>
     have H := HA.out
     clear HA
     simp only [remontoirlaw17_DefCuts.j0] at H
     by_cases c17 : x40_7 = true
     ·
      subst c17
      have H1 : (some false) = some r := by rw [if_pos rfl] at H; exact H
      clear H
      have H := H1
      clear H1
      obtain rfl := Option.some.inj H
      go_wp2
      repeat (go_quiet (fail); try go_wp2)
      go_ret
      exact ⟨by first | rfl | (simp [errW_none, errW_some] <;> rfl) | (simp [*, errW_none, errW_some] <;> rfl), by repeat (first | (with_reducible first | exact HB.out | apply below_alloc | apply pw_below_drewN | apply below_drew1 | refine below_set ?_ GE391.out) | exact HB.out)⟩
     ·
      replace c17 := Bool.eq_false_iff.mpr c17
      subst c17
      have H1 : (if (t397.length : Int) = 0 then (none) else (remontoirlaw17_DefCuts.l0 kj7 t397 (wrap64 (1 + (Int.tmod (wrap64 (a1)) (t397.length : Int)))) (⟨#[]⟩ : ByteArray) 0 a0_0 l0_1 l0_2)) = some r := by rw [if_neg (show ¬ (false = true) by decide)] at H; exact H
      clear H
      have H := H1
      clear H1
      by_cases c18 : (t397.length : Int) = 0
      ·
       rw [if_pos c18] at H
       exact absurd H (by simp)
      ·
       rw [if_neg c18] at H
       have c18b0 : ((t397.length : Int) == 0) = false := beq_eq_false_iff_ne.mpr c18
       have c18b1 : ((t397.length : Int) != 0) = true := bne_iff_ne.mpr c18
       have c18b2 : ¬ (t397 = []) := fun h_ => c18 (by rw [h_]; rfl)
       have H' := Aside0.mk H
       clear H
       obtain ⟨Ao19, co19, eo19⟩ := Kd.R_slice HO_7.out
       subst eo19
       go_wp2
       repeat (go_quiet (fail); try go_wp2)
       go_loopg [10, 11] kj7 (fun kq v10 v11 w' => ∃ (x10_2 : ByteArray) (x11_2 : Int), v10 = .string x10_2 ∧ v11 = .int .i64 x11_2 ∧ Aside0 (remontoirlaw17_DefCuts.l0 kq t397 (wrap64 (1 + (Int.tmod (wrap64 (a1)) (t397.length : Int)))) x10_2 x11_2 a0_0 l0_1 l0_2 = some r) ∧ Aside0 (kq ≤ kj7) ∧ Aside0 (Kd.R Kd.string 9 w' w.heap.size (fun _ => True) (.slice Ao19 t397.length co19) t397) ∧ Aside0 (w'.heap[gb391]? = some (.cells #[.string a0_0, (.slice A0_1 l0_1.length c0_1), (.slice A0_2 l0_2.length c0_2)] 25 (0, 0))) ∧ Aside0 (Below w.heap.size w w'))
       case atStart => exact ⟨((⟨#[]⟩ : ByteArray)), (0), (by first | rfl | (simp; done) | (simp [*]; done)), (by first | rfl | (simp; done) | (simp [*]; done)), H', ⟨Nat.le_refl _⟩, ⟨by (with_reducible repeat (first | apply Kd.R_alloc | apply Kd.R_drewN | apply Kd.R_drew)); exact HO_7.out⟩, ⟨by (with_reducible repeat (first | refine blk_drewN ?_ _ | refine blk_drew ?_ | refine blk_alloc ?_ _)); exact BK391.out⟩, ⟨by repeat (first | (with_reducible first | exact HB.out | apply below_alloc | apply pw_below_drewN | apply below_drew1 | refine below_set ?_ GE391.out) | exact HB.out)⟩⟩
       case round =>
        clear H'
        try clear c1
        try clear p2
        try clear c4
        try clear c5
        try clear c6
        try clear p6
        try clear c15
        try clear c15b0
        try clear c15b1
        try clear c17
        try clear c18
        try clear c18b0
        try clear c18b1
        try clear c18b2
        try clear hcz10_0
        try clear hcz10_1
        try clear hcz10_2
        try clear hcz12_0
        try clear hcz12_1
        try clear hcz12_2
        try clear hfz10_0
        try clear hfz10_1
        try clear hfz10_2
        try clear hfz12_0
        try clear hfz12_1
        try clear hfz12_2
        try clear p2
        obtain ⟨x10_2, x11_2, rfl, rfl, HA, HK2, HO_7, BK391, HB⟩ := hrel
        cases gk with
        | zero => exact absurd HA.out (by simp [remontoirlaw17_DefCuts.l0])
        | succ k2 =>
         have H := HA.out
         clear HA
         simp only [remontoirlaw17_DefCuts.l0] at H
         by_cases c20 : x11_2 < (wrap64 (1 + (Int.tmod (wrap64 (a1)) (t397.length : Int))))
         ·
          rw [if_pos c20] at H
          have c20b0 : decide (x11_2 < (wrap64 (1 + (Int.tmod (wrap64 (a1)) (t397.length : Int))))) = true := decide_eq_true c20
          clear c20
          by_cases c21 : 0 ≤ x11_2
          ·
           rw [if_pos c21] at H
           have c21b0 : decide (0 ≤ x11_2) = true := decide_eq_true c21
           clear c21
           by_cases c22 : x11_2 < (t397.length : Int)
           ·
            rw [if_pos c22] at H
            have c22b0 : decide (x11_2 < (t397.length : Int)) = true := decide_eq_true c22
            clear c22
            by_cases c23 : (rdOf ByteArray.empty t397 x11_2).size + 1 ≤ 9223372036854775807
            ·
             rw [if_pos c23] at H
             have c23b0 := eq_true c23
             have c23b1 : decide ((rdOf ByteArray.empty t397 x11_2).size + 1 ≤ 9223372036854775807) = true := decide_eq_true c23
             try have c23b2 : (9223372036854775807 < (rdOf ByteArray.empty t397 x11_2).size + 1) = False := eq_false (Nat.not_lt.2 c23)
             by_cases c24 : x10_2.size + ((rdOf ByteArray.empty t397 x11_2) ++ (⟨#[10]⟩ : ByteArray)).size ≤ 9223372036854775807
             ·
              rw [if_pos c24] at H
              have c24b0 := eq_true c24
              have c24b1 : decide (x10_2.size + ((rdOf ByteArray.empty t397 x11_2) ++ (⟨#[10]⟩ : ByteArray)).size ≤ 9223372036854775807) = true := decide_eq_true c24
              have c24z := c24
              try simp only [ByteArray.size_append, szlit, List.size_toArray, List.length_cons, List.length_nil, Nat.zero_add, Nat.reduceAdd] at c24z
              try have c24b2 : (9223372036854775807 < x10_2.size + ((rdOf ByteArray.empty t397 x11_2) ++ (⟨#[10]⟩ : ByteArray)).size) = False := eq_false (Nat.not_lt.2 c24)
              try (have c24b2z := c24b2; simp only [ByteArray.size_append, szlit, List.size_toArray, List.length_cons, List.length_nil, Nat.zero_add, Nat.reduceAdd] at c24b2z)
              have H' := Aside0.mk H
              clear H
              have p401 : 0 ≤ (x11_2 : Int) := of_decide_eq_true (by first | (with_reducible assumption) | assumption)
              have q401 : x11_2 < (t397.length : Int) := of_decide_eq_true (by first | (with_reducible assumption) | assumption)
              obtain ⟨ad401, e401, hx401_0⟩ := Kd.at_string (Kd.R_reads' HO_7.out).2.2 x11_2 p401 q401
              cases e401
              replace p401 := eq_true p401
              replace q401 := eq_true q401
              go_wp2
              repeat (go_quiet (fail); try go_wp2)
              go_roundg k2
              case measure => have := HJ7.out; have := HK2.out; omega
              case rel => exact ⟨(x10_2 ++ ((rdOf ByteArray.empty t397 x11_2) ++ (⟨#[10]⟩ : ByteArray))), (wrap64 (x11_2 + 1)), (by first | rfl | (simp; done) | (simp [*]; done)), (by first | rfl | (simp; done) | (simp [*]; done)), H', ⟨by have := HJ7.out; have := HK2.out; omega⟩, ⟨by (with_reducible repeat (first | apply Kd.R_alloc | apply Kd.R_drewN | apply Kd.R_drew)); exact HO_7.out⟩, ⟨by (with_reducible repeat (first | refine blk_drewN ?_ _ | refine blk_drew ?_ | refine blk_alloc ?_ _)); exact BK391.out⟩, ⟨by repeat (first | (with_reducible first | exact HB.out | apply below_alloc | apply pw_below_drewN | apply below_drew1 | refine below_set ?_ GE391.out) | exact HB.out)⟩⟩
             ·
              rw [if_neg c24] at H
              exact absurd H (by simp)
            ·
             rw [if_neg c23] at H
             exact absurd H (by simp)
           ·
            rw [if_neg c22] at H
            exact absurd H (by simp)
          ·
           rw [if_neg c21] at H
           exact absurd H (by simp)
         ·
          rw [if_neg c20] at H
          have c20b0 : decide (x11_2 < (wrap64 (1 + (Int.tmod (wrap64 (a1)) (t397.length : Int))))) = false := decide_eq_false c20
          clear c20
          replace H := Option.bind_eq_some_iff.mp H
          obtain ⟨⟨t402, t403, t406, t409, t410⟩, A250, H⟩ := H
          replace H : (if t410 = 0 then (if t409 = 0 then (if t402.toList = a0_0.toList then (if (t403.length : Int) = (mn (wrap64 ((wrap64 (1 + (Int.tmod (wrap64 (a1)) (t397.length : Int)))) - 1)) (l0_1.length : Int)) then (remontoirlaw17_DefCuts.j2 k2 t397 x10_2 ((t406.length : Int) != (wrap64 ((wrap64 ((wrap64 (1 + (Int.tmod (wrap64 (a1)) (t397.length : Int)))) - 1)) - (t403.length : Int)))) a0_0 l0_1 l0_2 t402 t403 t406) else (remontoirlaw17_DefCuts.j2 k2 t397 x10_2 true a0_0 l0_1 l0_2 t402 t403 t406)) else (remontoirlaw17_DefCuts.j2 k2 t397 x10_2 true a0_0 l0_1 l0_2 t402 t403 t406)) else (remontoirlaw17_DefCuts.j2 k2 t397 x10_2 true a0_0 l0_1 l0_2 t402 t403 t406)) else (remontoirlaw17_DefCuts.j2 k2 t397 x10_2 true a0_0 l0_1 l0_2 t402 t403 t406)) = some r := H
          have A25 := Aside0.mk A250
          clear A250
          have HC26 := Aside0.mk H
          clear H
          go_upto_region 16 with (first | (go_at_call 12; (with_reducible refine (def_Parse.calls k2 x10_2 t402 t403 t406 t409 t410 _ A25.out).mono ?_); rintro e w27 ⟨v404, v407, rfl, ho0, ho1, hb⟩; have n0_ := Aside0.mk (Kd.R_below (by (with_reducible repeat (first | apply Kd.R_alloc | apply Kd.R_drewN | apply Kd.R_drew)); exact HO_7.out) hb); have n1_ := Aside0.mk (Kd.R_lower ho0 (below_size (by repeat (first | (with_reducible first | exact HB.out | apply below_alloc | apply pw_below_drewN | apply below_drew1 | refine below_set ?_ GE391.out) | exact HB.out)))); have n2_ := Aside0.mk (Kd.R_lower ho1 (below_size (by repeat (first | (with_reducible first | exact HB.out | apply below_alloc | apply pw_below_drewN | apply below_drew1 | refine below_set ?_ GE391.out) | exact HB.out)))); have n3_ := Aside0.mk (blk_below (g := gb391) (o := .cells #[.string a0_0, .slice A0_1 l0_1.length c0_1, .slice A0_2 l0_2.length c0_2] 25 (0, 0)) (by (with_reducible repeat (first | refine blk_drewN ?_ _ | refine blk_drew ?_ | refine blk_alloc ?_ _)); exact BK391.out) hb); have n4_ := Aside0.mk (below_step (by repeat (first | (with_reducible first | exact HB.out | apply below_alloc | apply pw_below_drewN | apply below_drew1 | refine below_set ?_ GE391.out) | exact HB.out)) hb); clear HO_7; clear BK391; clear HB; have HO_7 := n0_; have HO405 := n1_; have HO408 := n2_; have BK391 := n3_; have HB := n4_; clear n0_ n1_ n2_ n3_ n4_; (try clear hb); (try clear hb2); (try clear hk); (try clear hi); (try clear ho0); (try clear ho1)) | ((with_reducible refine gate_dst (N := 12) rfl ?_); (try (refine gate_guard (by rfl) ?_; dsimp only)); refine box_event ?hg (N := 12) ?hd (cs := #[.string (⟨#[]⟩ : ByteArray), .slice none 0 0, .slice none 0 0]) (t := 25) ?hr ?_; (case hd => rfl); (case hg => rfl); (case hr => first | (go_simp; done) | (go_simp; rfl)); intro gb411 hg w28 hbox hb; have n0_ := Aside0.mk (Kd.R_below (by (with_reducible repeat (first | apply Kd.R_alloc | apply Kd.R_drewN | apply Kd.R_drew)); exact HO_7.out) hb); have n1_ := Aside0.mk (Kd.R_below (by (with_reducible repeat (first | apply Kd.R_alloc | apply Kd.R_drewN | apply Kd.R_drew)); exact HO405.out) hb); have n2_ := Aside0.mk (Kd.R_below (by (with_reducible repeat (first | apply Kd.R_alloc | apply Kd.R_drewN | apply Kd.R_drew)); exact HO408.out) hb); have n3_ := Aside0.mk (blk_below (g := gb391) (o := .cells #[.string a0_0, .slice A0_1 l0_1.length c0_1, .slice A0_2 l0_2.length c0_2] 25 (0, 0)) (by (with_reducible repeat (first | refine blk_drewN ?_ _ | refine blk_drew ?_ | refine blk_alloc ?_ _)); exact BK391.out) hb); have n4_ := Aside0.mk (below_step (by repeat (first | (with_reducible first | exact HB.out | apply below_alloc | apply pw_below_drewN | apply below_drew1 | refine below_set ?_ GE391.out) | exact HB.out)) hb); have n5_ := Aside0.mk (hbox); have n6_ := Aside0.mk ((by rw [hg]; exact (below_size (by repeat (first | (with_reducible first | exact HB.out | apply below_alloc | apply pw_below_drewN | apply below_drew1 | refine below_set ?_ GE391.out) | exact HB.out))) : w.heap.size ≤ gb411)); have n7_ := Aside0.mk ((by rw [hg]; exact (below_size (by repeat (first | (with_reducible first | exact HB.out | apply below_alloc | apply pw_below_drewN | apply below_drew1 | refine below_set ?_ GE391.out) | exact HB.out))) : w.heap.size ≤ gb411)); have n8_ := Aside0.mk ((by rw [hg]; exact Nat.ne_of_lt (blk_lt (g := gb391) (o := .cells #[.string a0_0, .slice A0_1 l0_1.length c0_1, .slice A0_2 l0_2.length c0_2] 25 (0, 0)) (by (with_reducible repeat (first | refine blk_drewN ?_ _ | refine blk_drew ?_ | refine blk_alloc ?_ _)); exact BK391.out)) : gb391 ≠ gb411)); have n9_ := Aside0.mk ((by rw [hg]; exact Nat.ne_of_gt (blk_lt (g := gb391) (o := .cells #[.string a0_0, .slice A0_1 l0_1.length c0_1, .slice A0_2 l0_2.length c0_2] 25 (0, 0)) (by (with_reducible repeat (first | refine blk_drewN ?_ _ | refine blk_drew ?_ | refine blk_alloc ?_ _)); exact BK391.out)) : gb411 ≠ gb391)); clear HO_7; clear HO405; clear HO408; clear BK391; clear HB; have HO_7 := n0_; have HO405 := n1_; have HO408 := n2_; have BK391 := n3_; have HB := n4_; have BK411 := n5_; have GW411 := n6_; have GE411 := n7_; have NB391_411 := n8_; have NB411_391 := n9_; clear n0_ n1_ n2_ n3_ n4_ n5_ n6_ n7_ n8_ n9_; clear hb hbox hg; have hnb29 := NB411_391.out; have hnc29 := NB391_411.out; have hcz30_0 : w28.cell? ⟨gb411, 0, none⟩ = some (.string (⟨#[]⟩ : ByteArray)) := (blk_cell BK411.out 0).trans rfl; have hcz30_1 : w28.cell? ⟨gb411, 1, none⟩ = some (.slice none 0 0) := (blk_cell BK411.out 1).trans rfl; have hcz30_2 : w28.cell? ⟨gb411, 2, none⟩ = some (.slice none 0 0) := (blk_cell BK411.out 2).trans rfl; have hfz30_0 := blk_frozen BK411.out 0; have hfz30_1 := blk_frozen BK411.out 1; have hfz30_2 := blk_frozen BK411.out 2; obtain ⟨Ao31, co31, eo31⟩ := Kd.R_slice HO405.out; subst eo31; obtain ⟨Ao32, co32, eo32⟩ := Kd.R_slice HO408.out; subst eo32))
          repeat (go_quiet (first | (go_at_call 12; (with_reducible refine (def_Parse.calls k2 x10_2 t402 t403 t406 t409 t410 _ A25.out).mono ?_); rintro e w27 ⟨v404, v407, rfl, ho0, ho1, hb⟩; have n0_ := Aside0.mk (Kd.R_below (by (with_reducible repeat (first | apply Kd.R_alloc | apply Kd.R_drewN | apply Kd.R_drew)); exact HO_7.out) hb); have n1_ := Aside0.mk (Kd.R_lower ho0 (below_size (by repeat (first | (with_reducible first | exact HB.out | apply below_alloc | apply pw_below_drewN | apply below_drew1 | refine below_set ?_ GE391.out) | exact HB.out)))); have n2_ := Aside0.mk (Kd.R_lower ho1 (below_size (by repeat (first | (with_reducible first | exact HB.out | apply below_alloc | apply pw_below_drewN | apply below_drew1 | refine below_set ?_ GE391.out) | exact HB.out)))); have n3_ := Aside0.mk (blk_below (g := gb391) (o := .cells #[.string a0_0, .slice A0_1 l0_1.length c0_1, .slice A0_2 l0_2.length c0_2] 25 (0, 0)) (by (with_reducible repeat (first | refine blk_drewN ?_ _ | refine blk_drew ?_ | refine blk_alloc ?_ _)); exact BK391.out) hb); have n4_ := Aside0.mk (below_step (by repeat (first | (with_reducible first | exact HB.out | apply below_alloc | apply pw_below_drewN | apply below_drew1 | refine below_set ?_ GE391.out) | exact HB.out)) hb); clear HO_7; clear BK391; clear HB; have HO_7 := n0_; have HO405 := n1_; have HO408 := n2_; have BK391 := n3_; have HB := n4_; clear n0_ n1_ n2_ n3_ n4_; (try clear hb); (try clear hb2); (try clear hk); (try clear hi); (try clear ho0); (try clear ho1)) | ((with_reducible refine gate_dst (N := 12) rfl ?_); (try (refine gate_guard (by rfl) ?_; dsimp only)); refine box_event ?hg (N := 12) ?hd (cs := #[.string (⟨#[]⟩ : ByteArray), .slice none 0 0, .slice none 0 0]) (t := 25) ?hr ?_; (case hd => rfl); (case hg => rfl); (case hr => first | (go_simp; done) | (go_simp; rfl)); intro gb411 hg w28 hbox hb; have n0_ := Aside0.mk (Kd.R_below (by (with_reducible repeat (first | apply Kd.R_alloc | apply Kd.R_drewN | apply Kd.R_drew)); exact HO_7.out) hb); have n1_ := Aside0.mk (Kd.R_below (by (with_reducible repeat (first | apply Kd.R_alloc | apply Kd.R_drewN | apply Kd.R_drew)); exact HO405.out) hb); have n2_ := Aside0.mk (Kd.R_below (by (with_reducible repeat (first | apply Kd.R_alloc | apply Kd.R_drewN | apply Kd.R_drew)); exact HO408.out) hb); have n3_ := Aside0.mk (blk_below (g := gb391) (o := .cells #[.string a0_0, .slice A0_1 l0_1.length c0_1, .slice A0_2 l0_2.length c0_2] 25 (0, 0)) (by (with_reducible repeat (first | refine blk_drewN ?_ _ | refine blk_drew ?_ | refine blk_alloc ?_ _)); exact BK391.out) hb); have n4_ := Aside0.mk (below_step (by repeat (first | (with_reducible first | exact HB.out | apply below_alloc | apply pw_below_drewN | apply below_drew1 | refine below_set ?_ GE391.out) | exact HB.out)) hb); have n5_ := Aside0.mk (hbox); have n6_ := Aside0.mk ((by rw [hg]; exact (below_size (by repeat (first | (with_reducible first | exact HB.out | apply below_alloc | apply pw_below_drewN | apply below_drew1 | refine below_set ?_ GE391.out) | exact HB.out))) : w.heap.size ≤ gb411)); have n7_ := Aside0.mk ((by rw [hg]; exact (below_size (by repeat (first | (with_reducible first | exact HB.out | apply below_alloc | apply pw_below_drewN | apply below_drew1 | refine below_set ?_ GE391.out) | exact HB.out))) : w.heap.size ≤ gb411)); have n8_ := Aside0.mk ((by rw [hg]; exact Nat.ne_of_lt (blk_lt (g := gb391) (o := .cells #[.string a0_0, .slice A0_1 l0_1.length c0_1, .slice A0_2 l0_2.length c0_2] 25 (0, 0)) (by (with_reducible repeat (first | refine blk_drewN ?_ _ | refine blk_drew ?_ | refine blk_alloc ?_ _)); exact BK391.out)) : gb391 ≠ gb411)); have n9_ := Aside0.mk ((by rw [hg]; exact Nat.ne_of_gt (blk_lt (g := gb391) (o := .cells #[.string a0_0, .slice A0_1 l0_1.length c0_1, .slice A0_2 l0_2.length c0_2] 25 (0, 0)) (by (with_reducible repeat (first | refine blk_drewN ?_ _ | refine blk_drew ?_ | refine blk_alloc ?_ _)); exact BK391.out)) : gb411 ≠ gb391)); clear HO_7; clear HO405; clear HO408; clear BK391; clear HB; have HO_7 := n0_; have HO405 := n1_; have HO408 := n2_; have BK391 := n3_; have HB := n4_; have BK411 := n5_; have GW411 := n6_; have GE411 := n7_; have NB391_411 := n8_; have NB411_391 := n9_; clear n0_ n1_ n2_ n3_ n4_ n5_ n6_ n7_ n8_ n9_; clear hb hbox hg; have hnb29 := NB411_391.out; have hnc29 := NB391_411.out; have hcz30_0 : w28.cell? ⟨gb411, 0, none⟩ = some (.string (⟨#[]⟩ : ByteArray)) := (blk_cell BK411.out 0).trans rfl; have hcz30_1 : w28.cell? ⟨gb411, 1, none⟩ = some (.slice none 0 0) := (blk_cell BK411.out 1).trans rfl; have hcz30_2 : w28.cell? ⟨gb411, 2, none⟩ = some (.slice none 0 0) := (blk_cell BK411.out 2).trans rfl; have hfz30_0 := blk_frozen BK411.out 0; have hfz30_1 := blk_frozen BK411.out 1; have hfz30_2 := blk_frozen BK411.out 2; obtain ⟨Ao31, co31, eo31⟩ := Kd.R_slice HO405.out; subst eo31; obtain ⟨Ao32, co32, eo32⟩ := Kd.R_slice HO408.out; subst eo32)); go_upto_region 16 with (first | (go_at_call 12; (with_reducible refine (def_Parse.calls k2 x10_2 t402 t403 t406 t409 t410 _ A25.out).mono ?_); rintro e w27 ⟨v404, v407, rfl, ho0, ho1, hb⟩; have n0_ := Aside0.mk (Kd.R_below (by (with_reducible repeat (first | apply Kd.R_alloc | apply Kd.R_drewN | apply Kd.R_drew)); exact HO_7.out) hb); have n1_ := Aside0.mk (Kd.R_lower ho0 (below_size (by repeat (first | (with_reducible first | exact HB.out | apply below_alloc | apply pw_below_drewN | apply below_drew1 | refine below_set ?_ GE391.out) | exact HB.out)))); have n2_ := Aside0.mk (Kd.R_lower ho1 (below_size (by repeat (first | (with_reducible first | exact HB.out | apply below_alloc | apply pw_below_drewN | apply below_drew1 | refine below_set ?_ GE391.out) | exact HB.out)))); have n3_ := Aside0.mk (blk_below (g := gb391) (o := .cells #[.string a0_0, .slice A0_1 l0_1.length c0_1, .slice A0_2 l0_2.length c0_2] 25 (0, 0)) (by (with_reducible repeat (first | refine blk_drewN ?_ _ | refine blk_drew ?_ | refine blk_alloc ?_ _)); exact BK391.out) hb); have n4_ := Aside0.mk (below_step (by repeat (first | (with_reducible first | exact HB.out | apply below_alloc | apply pw_below_drewN | apply below_drew1 | refine below_set ?_ GE391.out) | exact HB.out)) hb); clear HO_7; clear BK391; clear HB; have HO_7 := n0_; have HO405 := n1_; have HO408 := n2_; have BK391 := n3_; have HB := n4_; clear n0_ n1_ n2_ n3_ n4_; (try clear hb); (try clear hb2); (try clear hk); (try clear hi); (try clear ho0); (try clear ho1)) | ((with_reducible refine gate_dst (N := 12) rfl ?_); (try (refine gate_guard (by rfl) ?_; dsimp only)); refine box_event ?hg (N := 12) ?hd (cs := #[.string (⟨#[]⟩ : ByteArray), .slice none 0 0, .slice none 0 0]) (t := 25) ?hr ?_; (case hd => rfl); (case hg => rfl); (case hr => first | (go_simp; done) | (go_simp; rfl)); intro gb411 hg w28 hbox hb; have n0_ := Aside0.mk (Kd.R_below (by (with_reducible repeat (first | apply Kd.R_alloc | apply Kd.R_drewN | apply Kd.R_drew)); exact HO_7.out) hb); have n1_ := Aside0.mk (Kd.R_below (by (with_reducible repeat (first | apply Kd.R_alloc | apply Kd.R_drewN | apply Kd.R_drew)); exact HO405.out) hb); have n2_ := Aside0.mk (Kd.R_below (by (with_reducible repeat (first | apply Kd.R_alloc | apply Kd.R_drewN | apply Kd.R_drew)); exact HO408.out) hb); have n3_ := Aside0.mk (blk_below (g := gb391) (o := .cells #[.string a0_0, .slice A0_1 l0_1.length c0_1, .slice A0_2 l0_2.length c0_2] 25 (0, 0)) (by (with_reducible repeat (first | refine blk_drewN ?_ _ | refine blk_drew ?_ | refine blk_alloc ?_ _)); exact BK391.out) hb); have n4_ := Aside0.mk (below_step (by repeat (first | (with_reducible first | exact HB.out | apply below_alloc | apply pw_below_drewN | apply below_drew1 | refine below_set ?_ GE391.out) | exact HB.out)) hb); have n5_ := Aside0.mk (hbox); have n6_ := Aside0.mk ((by rw [hg]; exact (below_size (by repeat (first | (with_reducible first | exact HB.out | apply below_alloc | apply pw_below_drewN | apply below_drew1 | refine below_set ?_ GE391.out) | exact HB.out))) : w.heap.size ≤ gb411)); have n7_ := Aside0.mk ((by rw [hg]; exact (below_size (by repeat (first | (with_reducible first | exact HB.out | apply below_alloc | apply pw_below_drewN | apply below_drew1 | refine below_set ?_ GE391.out) | exact HB.out))) : w.heap.size ≤ gb411)); have n8_ := Aside0.mk ((by rw [hg]; exact Nat.ne_of_lt (blk_lt (g := gb391) (o := .cells #[.string a0_0, .slice A0_1 l0_1.length c0_1, .slice A0_2 l0_2.length c0_2] 25 (0, 0)) (by (with_reducible repeat (first | refine blk_drewN ?_ _ | refine blk_drew ?_ | refine blk_alloc ?_ _)); exact BK391.out)) : gb391 ≠ gb411)); have n9_ := Aside0.mk ((by rw [hg]; exact Nat.ne_of_gt (blk_lt (g := gb391) (o := .cells #[.string a0_0, .slice A0_1 l0_1.length c0_1, .slice A0_2 l0_2.length c0_2] 25 (0, 0)) (by (with_reducible repeat (first | refine blk_drewN ?_ _ | refine blk_drew ?_ | refine blk_alloc ?_ _)); exact BK391.out)) : gb411 ≠ gb391)); clear HO_7; clear HO405; clear HO408; clear BK391; clear HB; have HO_7 := n0_; have HO405 := n1_; have HO408 := n2_; have BK391 := n3_; have HB := n4_; have BK411 := n5_; have GW411 := n6_; have GE411 := n7_; have NB391_411 := n8_; have NB411_391 := n9_; clear n0_ n1_ n2_ n3_ n4_ n5_ n6_ n7_ n8_ n9_; clear hb hbox hg; have hnb29 := NB411_391.out; have hnc29 := NB391_411.out; have hcz30_0 : w28.cell? ⟨gb411, 0, none⟩ = some (.string (⟨#[]⟩ : ByteArray)) := (blk_cell BK411.out 0).trans rfl; have hcz30_1 : w28.cell? ⟨gb411, 1, none⟩ = some (.slice none 0 0) := (blk_cell BK411.out 1).trans rfl; have hcz30_2 : w28.cell? ⟨gb411, 2, none⟩ = some (.slice none 0 0) := (blk_cell BK411.out 2).trans rfl; have hfz30_0 := blk_frozen BK411.out 0; have hfz30_1 := blk_frozen BK411.out 1; have hfz30_2 := blk_frozen BK411.out 2; obtain ⟨Ao31, co31, eo31⟩ := Kd.R_slice HO405.out; subst eo31; obtain ⟨Ao32, co32, eo32⟩ := Kd.R_slice HO408.out; subst eo32)))
          (try simp only [Act.put, List.setIfInBounds_toArray, List.set_cons_zero, List.set_cons_succ])
          go_cut [101] (fun v101 wc => ∃ (kq : Nat) (x101_25 : Bool), v101 = .bool x101_25 ∧ Aside0 (remontoirlaw17_DefCuts.j2 kq t397 x10_2 x101_25 a0_0 l0_1 l0_2 t402 t403 t406 = some r) ∧ Aside0 (kq ≤ k2) ∧ Aside0 (Kd.R Kd.string 9 wc w.heap.size (fun _ => True) (.slice Ao19 t397.length co19) t397) ∧ Aside0 (Kd.R k40 40 wc w.heap.size (fun _ => True) (.slice Ao31 t403.length co31) t403) ∧ Aside0 (Kd.R k42 42 wc w.heap.size (fun _ => True) (.slice Ao32 t406.length co32) t406) ∧ Aside0 (wc.heap[gb391]? = some (.cells #[.string a0_0, (.slice A0_1 l0_1.length c0_1), (.slice A0_2 l0_2.length c0_2)] 25 (0, 0))) ∧ Aside0 (wc.heap[gb411]? = some (.cells #[.string t402, (.slice Ao31 t403.length co31), (.slice Ao32 t406.length co32)] 25 (0, 0))) ∧ Aside0 (Below w.heap.size w wc))
          case first =>
           have H := HC26.out
           clear HC26
           by_cases c33 : t410 = 0
           ·
            rw [if_pos c33] at H
            have c33b0 : (t410 == 0) = true := beq_iff_eq.mpr c33
            have c33b1 : (t410 != 0) = false := bne_eq_false_iff_eq.mpr c33
            clear c33
            (first | rw [c33b0] | (simp only [i64_w, i32_w]; rw [c33b0]) | skip)
            by_cases c34 : t409 = 0
            ·
             rw [if_pos c34] at H
             have c34b0 : (t409 == 0) = true := beq_iff_eq.mpr c34
             have c34b1 : (t409 != 0) = false := bne_eq_false_iff_eq.mpr c34
             clear c34
             by_cases c35 : t402.toList = a0_0.toList
             ·
              rw [if_pos c35] at H
              have c35b0 : (t402.toList == a0_0.toList) = true := beq_iff_eq.mpr c35
              have c35b1 : (t402.toList != a0_0.toList) = false := bne_eq_false_iff_eq.mpr c35
              clear c35
              obtain ⟨ji36, hji36⟩ : ∃ j_ : Int, (mn (wrap64 ((wrap64 (1 + (Int.tmod (wrap64 (a1)) (t397.length : Int)))) - 1)) (l0_1.length : Int)) = j_ := ⟨_, rfl⟩
              replace H : (if (t403.length : Int) = (ji36) then (remontoirlaw17_DefCuts.j2 k2 t397 x10_2 ((t406.length : Int) != (wrap64 ((wrap64 ((wrap64 (1 + (Int.tmod (wrap64 (a1)) (t397.length : Int)))) - 1)) - (t403.length : Int)))) a0_0 l0_1 l0_2 t402 t403 t406) else (remontoirlaw17_DefCuts.j2 k2 t397 x10_2 true a0_0 l0_1 l0_2 t402 t403 t406)) = some r := by first | (rw [hji36] at H; exact H) | (simp only [hji36] at H ⊢; exact H)
              have hji36_ : (if (l0_1.length : Int) < (wrap64 ((wrap64 (1 + (Int.tmod (wrap64 (a1)) (t397.length : Int)))) - 1)) then (l0_1.length : Int) else (wrap64 ((wrap64 (1 + (Int.tmod (wrap64 (a1)) (t397.length : Int)))) - 1))) = ji36 := hji36
              by_cases c37 : (t403.length : Int) = (ji36)
              ·
               rw [if_pos c37] at H
               have c37b0 : ((t403.length : Int) == (ji36)) = true := beq_iff_eq.mpr c37
               have c37b1 : ((t403.length : Int) != (ji36)) = false := bne_eq_false_iff_eq.mpr c37
               clear c37
               have H' := Aside0.mk H
               clear H
               have hnb38 := NB411_391.out
               have hnc38 := NB391_411.out
               have hcz39_0 : w28.cell? ⟨gb411, 0, none⟩ = some (.string (⟨#[]⟩ : ByteArray)) := (blk_cell BK411.out 0).trans rfl
               have hcz39_1 : w28.cell? ⟨gb411, 1, none⟩ = some (.slice none 0 0) := (blk_cell BK411.out 1).trans rfl
               have hcz39_2 : w28.cell? ⟨gb411, 2, none⟩ = some (.slice none 0 0) := (blk_cell BK411.out 2).trans rfl
               have hfz39_0 := blk_frozen BK411.out 0
               have hfz39_1 := blk_frozen BK411.out 1
               have hfz39_2 := blk_frozen BK411.out 2
               have hcz40_0 : w28.cell? ⟨gb391, 0, none⟩ = some (.string a0_0) := (blk_cell BK391.out 0).trans rfl
               have hcz40_1 : w28.cell? ⟨gb391, 1, none⟩ = some (.slice A0_1 l0_1.length c0_1) := (blk_cell BK391.out 1).trans rfl
               have hcz40_2 : w28.cell? ⟨gb391, 2, none⟩ = some (.slice A0_2 l0_2.length c0_2) := (blk_cell BK391.out 2).trans rfl
               have hfz40_0 := blk_frozen BK391.out 0
               have hfz40_1 := blk_frozen BK391.out 1
               have hfz40_2 := blk_frozen BK391.out 2
               go_wp2
               repeat (go_quiet (fail); try go_wp2)
               go_meet
               case rel => exact ⟨_, (((t406.length : Int) != (wrap64 ((wrap64 ((wrap64 (1 + (Int.tmod (wrap64 (a1)) (t397.length : Int)))) - 1)) - (t403.length : Int))))), (by first | rfl | (simp; done) | (simp [*]; done)), H', ⟨by have := HJ7.out; have := HK2.out; first | omega | exact Nat.le_refl _⟩, ⟨by (with_reducible repeat (first | apply Kd.R_alloc | apply Kd.R_drewN | apply Kd.R_drew)); exact Kd.R_mono (Kd.R_far (p := ⟨gb411, 2, none⟩) (Kd.R_far (p := ⟨gb411, 1, none⟩) (Kd.R_far (p := ⟨gb411, 0, none⟩) (Kd.R_types HO_7.out BK411.out (by decide)) (fun _ hk => hk.2) (.string t402)) (fun _ hk => hk.2) (.slice Ao31 t403.length co31)) (fun _ hk => hk.2) (.slice Ao32 t406.length co32)) (fun _ hk => trivial)⟩, ⟨by (with_reducible repeat (first | apply Kd.R_alloc | apply Kd.R_drewN | apply Kd.R_drew)); exact Kd.R_mono (Kd.R_far (p := ⟨gb411, 2, none⟩) (Kd.R_far (p := ⟨gb411, 1, none⟩) (Kd.R_far (p := ⟨gb411, 0, none⟩) (Kd.R_types HO405.out BK411.out (by decide)) (fun _ hk => hk.2) (.string t402)) (fun _ hk => hk.2) (.slice Ao31 t403.length co31)) (fun _ hk => hk.2) (.slice Ao32 t406.length co32)) (fun _ hk => trivial)⟩, ⟨by (with_reducible repeat (first | apply Kd.R_alloc | apply Kd.R_drewN | apply Kd.R_drew)); exact Kd.R_mono (Kd.R_far (p := ⟨gb411, 2, none⟩) (Kd.R_far (p := ⟨gb411, 1, none⟩) (Kd.R_far (p := ⟨gb411, 0, none⟩) (Kd.R_types HO408.out BK411.out (by decide)) (fun _ hk => hk.2) (.string t402)) (fun _ hk => hk.2) (.slice Ao31 t403.length co31)) (fun _ hk => hk.2) (.slice Ao32 t406.length co32)) (fun _ hk => trivial)⟩, ⟨by (with_reducible repeat (first | refine blk_drewN ?_ _ | refine blk_drew ?_ | refine blk_alloc ?_ _)); refine blk_far ?_ NB391_411.out _; (with_reducible repeat (first | refine blk_drewN ?_ _ | refine blk_drew ?_ | refine blk_alloc ?_ _)); refine blk_far ?_ NB391_411.out _; (with_reducible repeat (first | refine blk_drewN ?_ _ | refine blk_drew ?_ | refine blk_alloc ?_ _)); refine blk_far ?_ NB391_411.out _; (with_reducible repeat (first | refine blk_drewN ?_ _ | refine blk_drew ?_ | refine blk_alloc ?_ _)); exact BK391.out⟩, ⟨by (with_reducible repeat (first | refine blk_drewN ?_ _ | refine blk_drew ?_ | refine blk_alloc ?_ _)); refine blk_put (cs := #[.string t402, .slice Ao31 t403.length co31, .slice none 0 0]) ?_ 2 _ rfl; (with_reducible repeat (first | refine blk_drewN ?_ _ | refine blk_drew ?_ | refine blk_alloc ?_ _)); refine blk_put (cs := #[.string t402, .slice none 0 0, .slice none 0 0]) ?_ 1 _ rfl; (with_reducible repeat (first | refine blk_drewN ?_ _ | refine blk_drew ?_ | refine blk_alloc ?_ _)); refine blk_put (cs := #[.string (⟨#[]⟩ : ByteArray), .slice none 0 0, .slice none 0 0]) ?_ 0 _ rfl; (with_reducible repeat (first | refine blk_drewN ?_ _ | refine blk_drew ?_ | refine blk_alloc ?_ _)); exact BK411.out⟩, ⟨by repeat (first | (with_reducible first | exact HB.out | apply below_alloc | apply pw_below_drewN | apply below_drew1 | refine below_set ?_ GE391.out | refine below_set ?_ GE411.out) | exact HB.out)⟩⟩
              ·
               rw [if_neg c37] at H
               have c37b0 : ((t403.length : Int) == (ji36)) = false := beq_eq_false_iff_ne.mpr c37
               have c37b1 : ((t403.length : Int) != (ji36)) = true := bne_iff_ne.mpr c37
               have H' := Aside0.mk H
               clear H
               have hnb41 := NB411_391.out
               have hnc41 := NB391_411.out
               have hcz42_0 : w28.cell? ⟨gb411, 0, none⟩ = some (.string (⟨#[]⟩ : ByteArray)) := (blk_cell BK411.out 0).trans rfl
               have hcz42_1 : w28.cell? ⟨gb411, 1, none⟩ = some (.slice none 0 0) := (blk_cell BK411.out 1).trans rfl
               have hcz42_2 : w28.cell? ⟨gb411, 2, none⟩ = some (.slice none 0 0) := (blk_cell BK411.out 2).trans rfl
               have hfz42_0 := blk_frozen BK411.out 0
               have hfz42_1 := blk_frozen BK411.out 1
               have hfz42_2 := blk_frozen BK411.out 2
               have hcz43_0 : w28.cell? ⟨gb391, 0, none⟩ = some (.string a0_0) := (blk_cell BK391.out 0).trans rfl
               have hcz43_1 : w28.cell? ⟨gb391, 1, none⟩ = some (.slice A0_1 l0_1.length c0_1) := (blk_cell BK391.out 1).trans rfl
               have hcz43_2 : w28.cell? ⟨gb391, 2, none⟩ = some (.slice A0_2 l0_2.length c0_2) := (blk_cell BK391.out 2).trans rfl
               have hfz43_0 := blk_frozen BK391.out 0
               have hfz43_1 := blk_frozen BK391.out 1
               have hfz43_2 := blk_frozen BK391.out 2
               go_wp2
               repeat (go_quiet (fail); try go_wp2)
               go_meet
               case rel => exact ⟨_, (true), (by first | rfl | (simp; done) | (simp [*]; done)), H', ⟨by have := HJ7.out; have := HK2.out; first | omega | exact Nat.le_refl _⟩, ⟨by (with_reducible repeat (first | apply Kd.R_alloc | apply Kd.R_drewN | apply Kd.R_drew)); exact Kd.R_mono (Kd.R_far (p := ⟨gb411, 2, none⟩) (Kd.R_far (p := ⟨gb411, 1, none⟩) (Kd.R_far (p := ⟨gb411, 0, none⟩) (Kd.R_types HO_7.out BK411.out (by decide)) (fun _ hk => hk.2) (.string t402)) (fun _ hk => hk.2) (.slice Ao31 t403.length co31)) (fun _ hk => hk.2) (.slice Ao32 t406.length co32)) (fun _ hk => trivial)⟩, ⟨by (with_reducible repeat (first | apply Kd.R_alloc | apply Kd.R_drewN | apply Kd.R_drew)); exact Kd.R_mono (Kd.R_far (p := ⟨gb411, 2, none⟩) (Kd.R_far (p := ⟨gb411, 1, none⟩) (Kd.R_far (p := ⟨gb411, 0, none⟩) (Kd.R_types HO405.out BK411.out (by decide)) (fun _ hk => hk.2) (.string t402)) (fun _ hk => hk.2) (.slice Ao31 t403.length co31)) (fun _ hk => hk.2) (.slice Ao32 t406.length co32)) (fun _ hk => trivial)⟩, ⟨by (with_reducible repeat (first | apply Kd.R_alloc | apply Kd.R_drewN | apply Kd.R_drew)); exact Kd.R_mono (Kd.R_far (p := ⟨gb411, 2, none⟩) (Kd.R_far (p := ⟨gb411, 1, none⟩) (Kd.R_far (p := ⟨gb411, 0, none⟩) (Kd.R_types HO408.out BK411.out (by decide)) (fun _ hk => hk.2) (.string t402)) (fun _ hk => hk.2) (.slice Ao31 t403.length co31)) (fun _ hk => hk.2) (.slice Ao32 t406.length co32)) (fun _ hk => trivial)⟩, ⟨by (with_reducible repeat (first | refine blk_drewN ?_ _ | refine blk_drew ?_ | refine blk_alloc ?_ _)); refine blk_far ?_ NB391_411.out _; (with_reducible repeat (first | refine blk_drewN ?_ _ | refine blk_drew ?_ | refine blk_alloc ?_ _)); refine blk_far ?_ NB391_411.out _; (with_reducible repeat (first | refine blk_drewN ?_ _ | refine blk_drew ?_ | refine blk_alloc ?_ _)); refine blk_far ?_ NB391_411.out _; (with_reducible repeat (first | refine blk_drewN ?_ _ | refine blk_drew ?_ | refine blk_alloc ?_ _)); exact BK391.out⟩, ⟨by (with_reducible repeat (first | refine blk_drewN ?_ _ | refine blk_drew ?_ | refine blk_alloc ?_ _)); refine blk_put (cs := #[.string t402, .slice Ao31 t403.length co31, .slice none 0 0]) ?_ 2 _ rfl; (with_reducible repeat (first | refine blk_drewN ?_ _ | refine blk_drew ?_ | refine blk_alloc ?_ _)); refine blk_put (cs := #[.string t402, .slice none 0 0, .slice none 0 0]) ?_ 1 _ rfl; (with_reducible repeat (first | refine blk_drewN ?_ _ | refine blk_drew ?_ | refine blk_alloc ?_ _)); refine blk_put (cs := #[.string (⟨#[]⟩ : ByteArray), .slice none 0 0, .slice none 0 0]) ?_ 0 _ rfl; (with_reducible repeat (first | refine blk_drewN ?_ _ | refine blk_drew ?_ | refine blk_alloc ?_ _)); exact BK411.out⟩, ⟨by repeat (first | (with_reducible first | exact HB.out | apply below_alloc | apply pw_below_drewN | apply below_drew1 | refine below_set ?_ GE391.out | refine below_set ?_ GE411.out) | exact HB.out)⟩⟩
             ·
              rw [if_neg c35] at H
              have c35b0 : (t402.toList == a0_0.toList) = false := beq_eq_false_iff_ne.mpr c35
              have c35b1 : (t402.toList != a0_0.toList) = true := bne_iff_ne.mpr c35
              have H' := Aside0.mk H
              clear H
              have hnb44 := NB411_391.out
              have hnc44 := NB391_411.out
              have hcz45_0 : w28.cell? ⟨gb411, 0, none⟩ = some (.string (⟨#[]⟩ : ByteArray)) := (blk_cell BK411.out 0).trans rfl
              have hcz45_1 : w28.cell? ⟨gb411, 1, none⟩ = some (.slice none 0 0) := (blk_cell BK411.out 1).trans rfl
              have hcz45_2 : w28.cell? ⟨gb411, 2, none⟩ = some (.slice none 0 0) := (blk_cell BK411.out 2).trans rfl
              have hfz45_0 := blk_frozen BK411.out 0
              have hfz45_1 := blk_frozen BK411.out 1
              have hfz45_2 := blk_frozen BK411.out 2
              have hcz46_0 : w28.cell? ⟨gb391, 0, none⟩ = some (.string a0_0) := (blk_cell BK391.out 0).trans rfl
              have hcz46_1 : w28.cell? ⟨gb391, 1, none⟩ = some (.slice A0_1 l0_1.length c0_1) := (blk_cell BK391.out 1).trans rfl
              have hcz46_2 : w28.cell? ⟨gb391, 2, none⟩ = some (.slice A0_2 l0_2.length c0_2) := (blk_cell BK391.out 2).trans rfl
              have hfz46_0 := blk_frozen BK391.out 0
              have hfz46_1 := blk_frozen BK391.out 1
              have hfz46_2 := blk_frozen BK391.out 2
              go_wp2
              repeat (go_quiet (fail); try go_wp2)
              go_meet
              case rel => exact ⟨_, (true), (by first | rfl | (simp; done) | (simp [*]; done)), H', ⟨by have := HJ7.out; have := HK2.out; first | omega | exact Nat.le_refl _⟩, ⟨by (with_reducible repeat (first | apply Kd.R_alloc | apply Kd.R_drewN | apply Kd.R_drew)); exact Kd.R_mono (Kd.R_far (p := ⟨gb411, 2, none⟩) (Kd.R_far (p := ⟨gb411, 1, none⟩) (Kd.R_far (p := ⟨gb411, 0, none⟩) (Kd.R_types HO_7.out BK411.out (by decide)) (fun _ hk => hk.2) (.string t402)) (fun _ hk => hk.2) (.slice Ao31 t403.length co31)) (fun _ hk => hk.2) (.slice Ao32 t406.length co32)) (fun _ hk => trivial)⟩, ⟨by (with_reducible repeat (first | apply Kd.R_alloc | apply Kd.R_drewN | apply Kd.R_drew)); exact Kd.R_mono (Kd.R_far (p := ⟨gb411, 2, none⟩) (Kd.R_far (p := ⟨gb411, 1, none⟩) (Kd.R_far (p := ⟨gb411, 0, none⟩) (Kd.R_types HO405.out BK411.out (by decide)) (fun _ hk => hk.2) (.string t402)) (fun _ hk => hk.2) (.slice Ao31 t403.length co31)) (fun _ hk => hk.2) (.slice Ao32 t406.length co32)) (fun _ hk => trivial)⟩, ⟨by (with_reducible repeat (first | apply Kd.R_alloc | apply Kd.R_drewN | apply Kd.R_drew)); exact Kd.R_mono (Kd.R_far (p := ⟨gb411, 2, none⟩) (Kd.R_far (p := ⟨gb411, 1, none⟩) (Kd.R_far (p := ⟨gb411, 0, none⟩) (Kd.R_types HO408.out BK411.out (by decide)) (fun _ hk => hk.2) (.string t402)) (fun _ hk => hk.2) (.slice Ao31 t403.length co31)) (fun _ hk => hk.2) (.slice Ao32 t406.length co32)) (fun _ hk => trivial)⟩, ⟨by (with_reducible repeat (first | refine blk_drewN ?_ _ | refine blk_drew ?_ | refine blk_alloc ?_ _)); refine blk_far ?_ NB391_411.out _; (with_reducible repeat (first | refine blk_drewN ?_ _ | refine blk_drew ?_ | refine blk_alloc ?_ _)); refine blk_far ?_ NB391_411.out _; (with_reducible repeat (first | refine blk_drewN ?_ _ | refine blk_drew ?_ | refine blk_alloc ?_ _)); refine blk_far ?_ NB391_411.out _; (with_reducible repeat (first | refine blk_drewN ?_ _ | refine blk_drew ?_ | refine blk_alloc ?_ _)); exact BK391.out⟩, ⟨by (with_reducible repeat (first | refine blk_drewN ?_ _ | refine blk_drew ?_ | refine blk_alloc ?_ _)); refine blk_put (cs := #[.string t402, .slice Ao31 t403.length co31, .slice none 0 0]) ?_ 2 _ rfl; (with_reducible repeat (first | refine blk_drewN ?_ _ | refine blk_drew ?_ | refine blk_alloc ?_ _)); refine blk_put (cs := #[.string t402, .slice none 0 0, .slice none 0 0]) ?_ 1 _ rfl; (with_reducible repeat (first | refine blk_drewN ?_ _ | refine blk_drew ?_ | refine blk_alloc ?_ _)); refine blk_put (cs := #[.string (⟨#[]⟩ : ByteArray), .slice none 0 0, .slice none 0 0]) ?_ 0 _ rfl; (with_reducible repeat (first | refine blk_drewN ?_ _ | refine blk_drew ?_ | refine blk_alloc ?_ _)); exact BK411.out⟩, ⟨by repeat (first | (with_reducible first | exact HB.out | apply below_alloc | apply pw_below_drewN | apply below_drew1 | refine below_set ?_ GE391.out | refine below_set ?_ GE411.out) | exact HB.out)⟩⟩
            ·
             rw [if_neg c34] at H
             have c34b0 : (t409 == 0) = false := beq_eq_false_iff_ne.mpr c34
             have c34b1 : (t409 != 0) = true := bne_iff_ne.mpr c34
             have H' := Aside0.mk H
             clear H
             go_wp2
             repeat (go_quiet (fail); try go_wp2)
             go_meet
             case rel => exact ⟨_, (true), (by first | rfl | (simp; done) | (simp [*]; done)), H', ⟨by have := HJ7.out; have := HK2.out; first | omega | exact Nat.le_refl _⟩, ⟨by (with_reducible repeat (first | apply Kd.R_alloc | apply Kd.R_drewN | apply Kd.R_drew)); exact Kd.R_mono (Kd.R_far (p := ⟨gb411, 2, none⟩) (Kd.R_far (p := ⟨gb411, 1, none⟩) (Kd.R_far (p := ⟨gb411, 0, none⟩) (Kd.R_types HO_7.out BK411.out (by decide)) (fun _ hk => hk.2) (.string t402)) (fun _ hk => hk.2) (.slice Ao31 t403.length co31)) (fun _ hk => hk.2) (.slice Ao32 t406.length co32)) (fun _ hk => trivial)⟩, ⟨by (with_reducible repeat (first | apply Kd.R_alloc | apply Kd.R_drewN | apply Kd.R_drew)); exact Kd.R_mono (Kd.R_far (p := ⟨gb411, 2, none⟩) (Kd.R_far (p := ⟨gb411, 1, none⟩) (Kd.R_far (p := ⟨gb411, 0, none⟩) (Kd.R_types HO405.out BK411.out (by decide)) (fun _ hk => hk.2) (.string t402)) (fun _ hk => hk.2) (.slice Ao31 t403.length co31)) (fun _ hk => hk.2) (.slice Ao32 t406.length co32)) (fun _ hk => trivial)⟩, ⟨by (with_reducible repeat (first | apply Kd.R_alloc | apply Kd.R_drewN | apply Kd.R_drew)); exact Kd.R_mono (Kd.R_far (p := ⟨gb411, 2, none⟩) (Kd.R_far (p := ⟨gb411, 1, none⟩) (Kd.R_far (p := ⟨gb411, 0, none⟩) (Kd.R_types HO408.out BK411.out (by decide)) (fun _ hk => hk.2) (.string t402)) (fun _ hk => hk.2) (.slice Ao31 t403.length co31)) (fun _ hk => hk.2) (.slice Ao32 t406.length co32)) (fun _ hk => trivial)⟩, ⟨by (with_reducible repeat (first | refine blk_drewN ?_ _ | refine blk_drew ?_ | refine blk_alloc ?_ _)); refine blk_far ?_ NB391_411.out _; (with_reducible repeat (first | refine blk_drewN ?_ _ | refine blk_drew ?_ | refine blk_alloc ?_ _)); refine blk_far ?_ NB391_411.out _; (with_reducible repeat (first | refine blk_drewN ?_ _ | refine blk_drew ?_ | refine blk_alloc ?_ _)); refine blk_far ?_ NB391_411.out _; (with_reducible repeat (first | refine blk_drewN ?_ _ | refine blk_drew ?_ | refine blk_alloc ?_ _)); exact BK391.out⟩, ⟨by (with_reducible repeat (first | refine blk_drewN ?_ _ | refine blk_drew ?_ | refine blk_alloc ?_ _)); refine blk_put (cs := #[.string t402, .slice Ao31 t403.length co31, .slice none 0 0]) ?_ 2 _ rfl; (with_reducible repeat (first | refine blk_drewN ?_ _ | refine blk_drew ?_ | refine blk_alloc ?_ _)); refine blk_put (cs := #[.string t402, .slice none 0 0, .slice none 0 0]) ?_ 1 _ rfl; (with_reducible repeat (first | refine blk_drewN ?_ _ | refine blk_drew ?_ | refine blk_alloc ?_ _)); refine blk_put (cs := #[.string (⟨#[]⟩ : ByteArray), .slice none 0 0, .slice none 0 0]) ?_ 0 _ rfl; (with_reducible repeat (first | refine blk_drewN ?_ _ | refine blk_drew ?_ | refine blk_alloc ?_ _)); exact BK411.out⟩, ⟨by repeat (first | (with_reducible first | exact HB.out | apply below_alloc | apply pw_below_drewN | apply below_drew1 | refine below_set ?_ GE391.out | refine below_set ?_ GE411.out) | exact HB.out)⟩⟩
           ·
            rw [if_neg c33] at H
            have c33b0 : (t410 == 0) = false := beq_eq_false_iff_ne.mpr c33
            have c33b1 : (t410 != 0) = true := bne_iff_ne.mpr c33
            (first | rw [c33b0] | (simp only [i64_w, i32_w]; rw [c33b0]) | skip)
            have H' := Aside0.mk H
            clear H
            go_wp2
            repeat (go_quiet (fail); try go_wp2)
            go_meet
            case rel => exact ⟨_, (true), (by first | rfl | (simp; done) | (simp [*]; done)), H', ⟨by have := HJ7.out; have := HK2.out; first | omega | exact Nat.le_refl _⟩, ⟨by (with_reducible repeat (first | apply Kd.R_alloc | apply Kd.R_drewN | apply Kd.R_drew)); exact Kd.R_mono (Kd.R_far (p := ⟨gb411, 2, none⟩) (Kd.R_far (p := ⟨gb411, 1, none⟩) (Kd.R_far (p := ⟨gb411, 0, none⟩) (Kd.R_types HO_7.out BK411.out (by decide)) (fun _ hk => hk.2) (.string t402)) (fun _ hk => hk.2) (.slice Ao31 t403.length co31)) (fun _ hk => hk.2) (.slice Ao32 t406.length co32)) (fun _ hk => trivial)⟩, ⟨by (with_reducible repeat (first | apply Kd.R_alloc | apply Kd.R_drewN | apply Kd.R_drew)); exact Kd.R_mono (Kd.R_far (p := ⟨gb411, 2, none⟩) (Kd.R_far (p := ⟨gb411, 1, none⟩) (Kd.R_far (p := ⟨gb411, 0, none⟩) (Kd.R_types HO405.out BK411.out (by decide)) (fun _ hk => hk.2) (.string t402)) (fun _ hk => hk.2) (.slice Ao31 t403.length co31)) (fun _ hk => hk.2) (.slice Ao32 t406.length co32)) (fun _ hk => trivial)⟩, ⟨by (with_reducible repeat (first | apply Kd.R_alloc | apply Kd.R_drewN | apply Kd.R_drew)); exact Kd.R_mono (Kd.R_far (p := ⟨gb411, 2, none⟩) (Kd.R_far (p := ⟨gb411, 1, none⟩) (Kd.R_far (p := ⟨gb411, 0, none⟩) (Kd.R_types HO408.out BK411.out (by decide)) (fun _ hk => hk.2) (.string t402)) (fun _ hk => hk.2) (.slice Ao31 t403.length co31)) (fun _ hk => hk.2) (.slice Ao32 t406.length co32)) (fun _ hk => trivial)⟩, ⟨by (with_reducible repeat (first | refine blk_drewN ?_ _ | refine blk_drew ?_ | refine blk_alloc ?_ _)); refine blk_far ?_ NB391_411.out _; (with_reducible repeat (first | refine blk_drewN ?_ _ | refine blk_drew ?_ | refine blk_alloc ?_ _)); refine blk_far ?_ NB391_411.out _; (with_reducible repeat (first | refine blk_drewN ?_ _ | refine blk_drew ?_ | refine blk_alloc ?_ _)); refine blk_far ?_ NB391_411.out _; (with_reducible repeat (first | refine blk_drewN ?_ _ | refine blk_drew ?_ | refine blk_alloc ?_ _)); exact BK391.out⟩, ⟨by (with_reducible repeat (first | refine blk_drewN ?_ _ | refine blk_drew ?_ | refine blk_alloc ?_ _)); refine blk_put (cs := #[.string t402, .slice Ao31 t403.length co31, .slice none 0 0]) ?_ 2 _ rfl; (with_reducible repeat (first | refine blk_drewN ?_ _ | refine blk_drew ?_ | refine blk_alloc ?_ _)); refine blk_put (cs := #[.string t402, .slice none 0 0, .slice none 0 0]) ?_ 1 _ rfl; (with_reducible repeat (first | refine blk_drewN ?_ _ | refine blk_drew ?_ | refine blk_alloc ?_ _)); refine blk_put (cs := #[.string (⟨#[]⟩ : ByteArray), .slice none 0 0, .slice none 0 0]) ?_ 0 _ rfl; (with_reducible repeat (first | refine blk_drewN ?_ _ | refine blk_drew ?_ | refine blk_alloc ?_ _)); exact BK411.out⟩, ⟨by repeat (first | (with_reducible first | exact HB.out | apply below_alloc | apply pw_below_drewN | apply below_drew1 | refine below_set ?_ GE391.out | refine below_set ?_ GE411.out) | exact HB.out)⟩⟩
          case rest =>
           clear HC26
           try clear c1
           try clear c2
           try clear p2
           try clear c3
           try clear c4
           try clear p4
           try clear q4
           try clear hx4
           try clear c5
           try clear c6
           try clear p6
           try clear c15
           try clear c15b0
           try clear c15b1
           try clear c17
           try clear c18
           try clear c18b0
           try clear c18b1
           try clear c18b2
           try clear c20
           try clear c20b0
           try clear c21
           try clear c21b0
           try clear c22
           try clear c22b0
           try clear c23
           try clear c23b0
           try clear c23b1
           try clear c23b2
           try clear c24
           try clear c24b0
           try clear c24b1
           try clear c24b2
           try clear c29
           try clear c33
           try clear c33b0
           try clear c33b1
           try clear c34
           try clear c34b0
           try clear c34b1
           try clear c35
           try clear c35b0
           try clear c35b1
           try clear c37
           try clear c37b0
           try clear c37b1
           try clear c38
           try clear p40
           try clear q40
           try clear hx40
           try clear c41
           try clear c44
           try clear hcz10_0
           try clear hcz10_1
           try clear hcz10_2
           try clear hcz12_0
           try clear hcz12_1
           try clear hcz12_2
           try clear hcz30_0
           try clear hcz30_1
           try clear hcz30_2
           try clear hcz39_0
           try clear hcz39_1
           try clear hcz39_2
           try clear hcz40_0
           try clear hcz40_1
           try clear hcz40_2
           try clear hcz42_0
           try clear hcz42_1
           try clear hcz42_2
           try clear hcz43_0
           try clear hcz43_1
           try clear hcz43_2
           try clear hcz45_0
           try clear hcz45_1
           try clear hcz45_2
           try clear hcz46_0
           try clear hcz46_1
           try clear hcz46_2
           try clear hfz10_0
           try clear hfz10_1
           try clear hfz10_2
           try clear hfz12_0
           try clear hfz12_1
           try clear hfz12_2
           try clear hfz30_0
           try clear hfz30_1
           try clear hfz30_2
           try clear hfz39_0
           try clear hfz39_1
           try clear hfz39_2
           try clear hfz40_0
           try clear hfz40_1
           try clear hfz40_2
           try clear hfz42_0
           try clear hfz42_1
           try clear hfz42_2
           try clear hfz43_0
           try clear hfz43_1
           try clear hfz43_2
           try clear hfz45_0
           try clear hfz45_1
           try clear hfz45_2
           try clear hfz46_0
           try clear hfz46_1
           try clear hfz46_2
           try clear hx401_0
           try clear p2
           try clear p401
           try clear p6
           try clear q401
           obtain ⟨kq, x101_25, rfl, HA, HJ25, HO_7, HO_412001, HO_412002, BK391, BK411, HB⟩ := hcut
           cases kq with
           | zero => exact absurd HA.out (by simp [remontoirlaw17_DefCuts.j2])
           | succ kj25 =>
            have H := HA.out
            clear HA
            simp only [remontoirlaw17_DefCuts.j2] at H
            by_cases c47 : x101_25 = true
            ·
             subst c47
             have H1 : (some false) = some r := by rw [if_pos rfl] at H; exact H
             clear H
             have H := H1
             clear H1
             obtain rfl := Option.some.inj H
             go_wp2
             repeat (go_quiet (fail); try go_wp2)
             go_ret
             exact ⟨by first | rfl | (simp [errW_none, errW_some] <;> rfl) | (simp [*, errW_none, errW_some] <;> rfl), by repeat (first | (with_reducible first | exact HB.out | apply below_alloc | apply pw_below_drewN | apply below_drew1 | refine below_set ?_ GE391.out | refine below_set ?_ GE411.out) | exact HB.out)⟩
            ·
             replace c47 := Bool.eq_false_iff.mpr c47
             subst c47
             have H1 : (remontoirlaw17_DefCuts.l1 kj25 t397 x10_2 0 a0_0 l0_1 l0_2 t402 t403 t406) = some r := by rw [if_neg (show ¬ (false = true) by decide)] at H; exact H
             clear H
             have H := H1
             clear H1
             have H' := Aside0.mk H
             clear H
             go_wp2
             repeat (go_quiet (fail); try go_wp2)
             go_loopg [15] kj25 (fun kq v15 w' => ∃ (x15_4 : Int), v15 = .int .i64 x15_4 ∧ Aside0 (remontoirlaw17_DefCuts.l1 kq t397 x10_2 x15_4 a0_0 l0_1 l0_2 t402 t403 t406 = some r) ∧ Aside0 (kq ≤ kj25) ∧ Aside0 (Kd.R Kd.string 9 w' w.heap.size (fun _ => True) (.slice Ao19 t397.length co19) t397) ∧ Aside0 (Kd.R k40 40 w' w.heap.size (fun _ => True) (.slice Ao31 t403.length co31) t403) ∧ Aside0 (Kd.R k42 42 w' w.heap.size (fun _ => True) (.slice Ao32 t406.length co32) t406) ∧ Aside0 (w'.heap[gb391]? = some (.cells #[.string a0_0, (.slice A0_1 l0_1.length c0_1), (.slice A0_2 l0_2.length c0_2)] 25 (0, 0))) ∧ Aside0 (w'.heap[gb411]? = some (.cells #[.string t402, (.slice Ao31 t403.length co31), (.slice Ao32 t406.length co32)] 25 (0, 0))) ∧ Aside0 (Below w.heap.size w w'))
             case atStart => exact ⟨(0), (by first | rfl | (simp; done) | (simp [*]; done)), H', ⟨Nat.le_refl _⟩, ⟨by (with_reducible repeat (first | apply Kd.R_alloc | apply Kd.R_drewN | apply Kd.R_drew)); exact HO_7.out⟩, ⟨by (with_reducible repeat (first | apply Kd.R_alloc | apply Kd.R_drewN | apply Kd.R_drew)); exact HO_412001.out⟩, ⟨by (with_reducible repeat (first | apply Kd.R_alloc | apply Kd.R_drewN | apply Kd.R_drew)); exact HO_412002.out⟩, ⟨by (with_reducible repeat (first | refine blk_drewN ?_ _ | refine blk_drew ?_ | refine blk_alloc ?_ _)); exact BK391.out⟩, ⟨by (with_reducible repeat (first | refine blk_drewN ?_ _ | refine blk_drew ?_ | refine blk_alloc ?_ _)); exact BK411.out⟩, ⟨by repeat (first | (with_reducible first | exact HB.out | apply below_alloc | apply pw_below_drewN | apply below_drew1 | refine below_set ?_ GE391.out | refine below_set ?_ GE411.out) | exact HB.out)⟩⟩
             case round =>
              clear H'
              try clear c1
              try clear c2
              try clear p2
              try clear c3
              try clear c4
              try clear p4
              try clear q4
              try clear hx4
              try clear c5
              try clear c6
              try clear p6
              try clear c15
              try clear c15b0
              try clear c15b1
              try clear c17
              try clear c18
              try clear c18b0
              try clear c18b1
              try clear c18b2
              try clear c20
              try clear c20b0
              try clear c21
              try clear c21b0
              try clear c22
              try clear c22b0
              try clear c23
              try clear c23b0
              try clear c23b1
              try clear c23b2
              try clear c24
              try clear c24b0
              try clear c24b1
              try clear c24b2
              try clear c29
              try clear c33
              try clear c33b0
              try clear c33b1
              try clear c34
              try clear c34b0
              try clear c34b1
              try clear c35
              try clear c35b0
              try clear c35b1
              try clear c37
              try clear c37b0
              try clear c37b1
              try clear c38
              try clear p40
              try clear q40
              try clear hx40
              try clear c41
              try clear c44
              try clear c47
              try clear hcz10_0
              try clear hcz10_1
              try clear hcz10_2
              try clear hcz12_0
              try clear hcz12_1
              try clear hcz12_2
              try clear hcz30_0
              try clear hcz30_1
              try clear hcz30_2
              try clear hcz39_0
              try clear hcz39_1
              try clear hcz39_2
              try clear hcz40_0
              try clear hcz40_1
              try clear hcz40_2
              try clear hcz42_0
              try clear hcz42_1
              try clear hcz42_2
              try clear hcz43_0
              try clear hcz43_1
              try clear hcz43_2
              try clear hcz45_0
              try clear hcz45_1
              try clear hcz45_2
              try clear hcz46_0
              try clear hcz46_1
              try clear hcz46_2
              try clear hfz10_0
              try clear hfz10_1
              try clear hfz10_2
              try clear hfz12_0
              try clear hfz12_1
              try clear hfz12_2
              try clear hfz30_0
              try clear hfz30_1
              try clear hfz30_2
              try clear hfz39_0
              try clear hfz39_1
              try clear hfz39_2
              try clear hfz40_0
              try clear hfz40_1
              try clear hfz40_2
              try clear hfz42_0
              try clear hfz42_1
              try clear hfz42_2
              try clear hfz43_0
              try clear hfz43_1
              try clear hfz43_2
              try clear hfz45_0
              try clear hfz45_1
              try clear hfz45_2
              try clear hfz46_0
              try clear hfz46_1
              try clear hfz46_2
              try clear hx401_0
              try clear p2
              try clear p4
              try clear p40
              try clear p401
              try clear p6
              try clear q4
              try clear q40
              try clear q401
              obtain ⟨x15_4, rfl, HA, HK4, HO_7, HO_412001, HO_412002, BK391, BK411, HB⟩ := hrel
              cases gk with
              | zero => exact absurd HA.out (by simp [remontoirlaw17_DefCuts.l1])
              | succ k4 =>
               have H := HA.out
               clear HA
               simp only [remontoirlaw17_DefCuts.l1] at H
               by_cases c48 : x15_4 < (t403.length : Int)
               ·
                rw [if_pos c48] at H
                have c48b0 : decide (x15_4 < (t403.length : Int)) = true := decide_eq_true c48
                clear c48
                by_cases c49 : 0 ≤ x15_4
                ·
                 rw [if_pos c49] at H
                 have c49b0 : decide (0 ≤ x15_4) = true := decide_eq_true c49
                 clear c49
                 by_cases c50 : x15_4 < (l0_1.length : Int)
                 ·
                  rw [if_pos c50] at H
                  have c50b0 : decide (x15_4 < (l0_1.length : Int)) = true := decide_eq_true c50
                  clear c50
                  by_cases c51 : (!(((rd_T40 t403 x15_4).f0) == ((rd_T40 l0_1 x15_4).f0)) || (!(((rd_T40 t403 x15_4).f1) == ((rd_T40 l0_1 x15_4).f1)) || (!(((rd_T40 t403 x15_4).f2) == ((rd_T40 l0_1 x15_4).f2)) || (!(((rd_T40 t403 x15_4).f3) == ((rd_T40 l0_1 x15_4).f3)) || (!((((rd_T40 t403 x15_4).f4).toList) == (((rd_T40 l0_1 x15_4).f4).toList))))))) = true
                  ·
                   rw [if_pos c51] at H
                   exact absurd (Option.some.inj H) (by rw [hr_]; decide)
                  ·
                   rw [if_neg c51] at H
                   have c51b0 : (!(((rd_T40 t403 x15_4).f0) == ((rd_T40 l0_1 x15_4).f0)) || (!(((rd_T40 t403 x15_4).f1) == ((rd_T40 l0_1 x15_4).f1)) || (!(((rd_T40 t403 x15_4).f2) == ((rd_T40 l0_1 x15_4).f2)) || (!(((rd_T40 t403 x15_4).f3) == ((rd_T40 l0_1 x15_4).f3)) || (!((((rd_T40 t403 x15_4).f4).toList) == (((rd_T40 l0_1 x15_4).f4).toList))))))) = false := by simpa using c51
                   clear c51
                   have H' := Aside0.mk H
                   clear H
                   have hnb55 := NB411_391.out
                   have hnc55 := NB391_411.out
                   have hcz56_0 : wr.cell? ⟨gb411, 0, none⟩ = some (.string t402) := (blk_cell BK411.out 0).trans rfl
                   have hcz56_1 : wr.cell? ⟨gb411, 1, none⟩ = some (.slice Ao31 t403.length co31) := (blk_cell BK411.out 1).trans rfl
                   have hcz56_2 : wr.cell? ⟨gb411, 2, none⟩ = some (.slice Ao32 t406.length co32) := (blk_cell BK411.out 2).trans rfl
                   have hfz56_0 := blk_frozen BK411.out 0
                   have hfz56_1 := blk_frozen BK411.out 1
                   have hfz56_2 := blk_frozen BK411.out 2
                   have p412 : 0 ≤ (x15_4 : Int) := of_decide_eq_true (by first | (with_reducible assumption) | assumption)
                   have q412 : x15_4 < (t403.length : Int) := of_decide_eq_true (by first | (with_reducible assumption) | assumption)
                   obtain ⟨ad412, e412, hx412_0, hx412_1, hx412_2, hx412_3, hx412_4⟩ := at_T40 (Kd.R_reads' HO_412001.out).2.2 x15_4 p412 q412
                   cases e412
                   replace p412 := eq_true p412
                   replace q412 := eq_true q412
                   have hcz57_0 : wr.cell? ⟨gb391, 0, none⟩ = some (.string a0_0) := (blk_cell BK391.out 0).trans rfl
                   have hcz57_1 : wr.cell? ⟨gb391, 1, none⟩ = some (.slice A0_1 l0_1.length c0_1) := (blk_cell BK391.out 1).trans rfl
                   have hcz57_2 : wr.cell? ⟨gb391, 2, none⟩ = some (.slice A0_2 l0_2.length c0_2) := (blk_cell BK391.out 2).trans rfl
                   have hfz57_0 := blk_frozen BK391.out 0
                   have hfz57_1 := blk_frozen BK391.out 1
                   have hfz57_2 := blk_frozen BK391.out 2
                   have p413 : 0 ≤ (x15_4 : Int) := of_decide_eq_true (by first | (with_reducible assumption) | assumption)
                   have q413 : x15_4 < (l0_1.length : Int) := of_decide_eq_true (by first | (with_reducible assumption) | assumption)
                   obtain ⟨ad413, e413, hx413_0, hx413_1, hx413_2, hx413_3, hx413_4⟩ := at_T40 HR0_1.out x15_4 p413 q413
                   cases e413
                   replace hx413_0 := (HB.out.cell (World.block_lt_of_cell? w _ hx413_0)).trans hx413_0
                   replace hx413_1 := (HB.out.cell (World.block_lt_of_cell? w _ hx413_1)).trans hx413_1
                   replace hx413_2 := (HB.out.cell (World.block_lt_of_cell? w _ hx413_2)).trans hx413_2
                   replace hx413_3 := (HB.out.cell (World.block_lt_of_cell? w _ hx413_3)).trans hx413_3
                   replace hx413_4 := (HB.out.cell (World.block_lt_of_cell? w _ hx413_4)).trans hx413_4
                   replace p413 := eq_true p413
                   replace q413 := eq_true q413
                   go_wp2
                   repeat (go_quiet (fail); try go_wp2)
                   go_roundg k4
                   case measure => have := HJ7.out; have := HK2.out; have := HJ25.out; have := HK4.out; omega
                   case rel => exact ⟨(wrap64 (x15_4 + 1)), (by first | rfl | (simp; done) | (simp [*]; done)), H', ⟨by have := HJ7.out; have := HK2.out; have := HJ25.out; have := HK4.out; omega⟩, ⟨by (with_reducible repeat (first | apply Kd.R_alloc | apply Kd.R_drewN | apply Kd.R_drew)); exact HO_7.out⟩, ⟨by (with_reducible repeat (first | apply Kd.R_alloc | apply Kd.R_drewN | apply Kd.R_drew)); exact HO_412001.out⟩, ⟨by (with_reducible repeat (first | apply Kd.R_alloc | apply Kd.R_drewN | apply Kd.R_drew)); exact HO_412002.out⟩, ⟨by (with_reducible repeat (first | refine blk_drewN ?_ _ | refine blk_drew ?_ | refine blk_alloc ?_ _)); exact BK391.out⟩, ⟨by (with_reducible repeat (first | refine blk_drewN ?_ _ | refine blk_drew ?_ | refine blk_alloc ?_ _)); exact BK411.out⟩, ⟨by repeat (first | (with_reducible first | exact HB.out | apply below_alloc | apply pw_below_drewN | apply below_drew1 | refine below_set ?_ GE391.out | refine below_set ?_ GE411.out) | exact HB.out)⟩⟩
                 ·
                  rw [if_neg c50] at H
                  exact absurd H (by simp)
                ·
                 rw [if_neg c49] at H
                 exact absurd H (by simp)
               ·
                rw [if_neg c48] at H
                have c48b0 : decide (x15_4 < (t403.length : Int)) = false := decide_eq_false c48
                clear c48
                have H' := Aside0.mk H
                clear H
                have hnb58 := NB411_391.out
                have hnc58 := NB391_411.out
                have hcz59_0 : wr.cell? ⟨gb411, 0, none⟩ = some (.string t402) := (blk_cell BK411.out 0).trans rfl
                have hcz59_1 : wr.cell? ⟨gb411, 1, none⟩ = some (.slice Ao31 t403.length co31) := (blk_cell BK411.out 1).trans rfl
                have hcz59_2 : wr.cell? ⟨gb411, 2, none⟩ = some (.slice Ao32 t406.length co32) := (blk_cell BK411.out 2).trans rfl
                have hfz59_0 := blk_frozen BK411.out 0
                have hfz59_1 := blk_frozen BK411.out 1
                have hfz59_2 := blk_frozen BK411.out 2
                go_wp2
                repeat (go_quiet (fail); try go_wp2)
                go_loopg [16] k4 (fun kq v16 w' => ∃ (x16_5 : Int), v16 = .int .i64 x16_5 ∧ Aside0 (remontoirlaw17_DefCuts.l2 kq t397 x10_2 x16_5 a0_0 l0_1 l0_2 t402 t403 t406 = some r) ∧ Aside0 (kq ≤ k4) ∧ Aside0 (Kd.R Kd.string 9 w' w.heap.size (fun _ => True) (.slice Ao19 t397.length co19) t397) ∧ Aside0 (Kd.R k40 40 w' w.heap.size (fun _ => True) (.slice Ao31 t403.length co31) t403) ∧ Aside0 (Kd.R k42 42 w' w.heap.size (fun _ => True) (.slice Ao32 t406.length co32) t406) ∧ Aside0 (w'.heap[gb391]? = some (.cells #[.string a0_0, (.slice A0_1 l0_1.length c0_1), (.slice A0_2 l0_2.length c0_2)] 25 (0, 0))) ∧ Aside0 (w'.heap[gb411]? = some (.cells #[.string t402, (.slice Ao31 t403.length co31), (.slice Ao32 t406.length co32)] 25 (0, 0))) ∧ Aside0 (Below w.heap.size w w'))
                case atStart => exact ⟨(0), (by first | rfl | (simp; done) | (simp [*]; done)), H', ⟨Nat.le_refl _⟩, ⟨by (with_reducible repeat (first | apply Kd.R_alloc | apply Kd.R_drewN | apply Kd.R_drew)); exact HO_7.out⟩, ⟨by (with_reducible repeat (first | apply Kd.R_alloc | apply Kd.R_drewN | apply Kd.R_drew)); exact HO_412001.out⟩, ⟨by (with_reducible repeat (first | apply Kd.R_alloc | apply Kd.R_drewN | apply Kd.R_drew)); exact HO_412002.out⟩, ⟨by (with_reducible repeat (first | refine blk_drewN ?_ _ | refine blk_drew ?_ | refine blk_alloc ?_ _)); exact BK391.out⟩, ⟨by (with_reducible repeat (first | refine blk_drewN ?_ _ | refine blk_drew ?_ | refine blk_alloc ?_ _)); exact BK411.out⟩, ⟨by repeat (first | (with_reducible first | exact HB.out | apply below_alloc | apply pw_below_drewN | apply below_drew1 | refine below_set ?_ GE391.out | refine below_set ?_ GE411.out) | exact HB.out)⟩⟩
                case round =>
                 clear H'
                 try clear c1
                 try clear c2
                 try clear p2
                 try clear c3
                 try clear c4
                 try clear p4
                 try clear q4
                 try clear hx4
                 try clear c5
                 try clear c6
                 try clear p6
                 try clear c15
                 try clear c15b0
                 try clear c15b1
                 try clear c17
                 try clear c18
                 try clear c18b0
                 try clear c18b1
                 try clear c18b2
                 try clear c20
                 try clear c20b0
                 try clear c21
                 try clear c21b0
                 try clear c22
                 try clear c22b0
                 try clear c23
                 try clear c23b0
                 try clear c23b1
                 try clear c23b2
                 try clear c24
                 try clear c24b0
                 try clear c24b1
                 try clear c24b2
                 try clear c29
                 try clear c33
                 try clear c33b0
                 try clear c33b1
                 try clear c34
                 try clear c34b0
                 try clear c34b1
                 try clear c35
                 try clear c35b0
                 try clear c35b1
                 try clear c37
                 try clear c37b0
                 try clear c37b1
                 try clear c38
                 try clear p40
                 try clear q40
                 try clear hx40
                 try clear c41
                 try clear p41
                 try clear q41
                 try clear hx41
                 try clear c44
                 try clear c47
                 try clear c48
                 try clear c48b0
                 try clear c49
                 try clear c49b0
                 try clear c50
                 try clear c50b0
                 try clear c51
                 try clear c51b0
                 try clear c52
                 try clear c55
                 try clear c58
                 try clear hcz10_0
                 try clear hcz10_1
                 try clear hcz10_2
                 try clear hcz12_0
                 try clear hcz12_1
                 try clear hcz12_2
                 try clear hcz30_0
                 try clear hcz30_1
                 try clear hcz30_2
                 try clear hcz39_0
                 try clear hcz39_1
                 try clear hcz39_2
                 try clear hcz40_0
                 try clear hcz40_1
                 try clear hcz40_2
                 try clear hcz42_0
                 try clear hcz42_1
                 try clear hcz42_2
                 try clear hcz43_0
                 try clear hcz43_1
                 try clear hcz43_2
                 try clear hcz45_0
                 try clear hcz45_1
                 try clear hcz45_2
                 try clear hcz46_0
                 try clear hcz46_1
                 try clear hcz46_2
                 try clear hcz53_0
                 try clear hcz53_1
                 try clear hcz53_2
                 try clear hcz54_0
                 try clear hcz54_1
                 try clear hcz54_2
                 try clear hcz56_0
                 try clear hcz56_1
                 try clear hcz56_2
                 try clear hcz57_0
                 try clear hcz57_1
                 try clear hcz57_2
                 try clear hcz59_0
                 try clear hcz59_1
                 try clear hcz59_2
                 try clear hfz10_0
                 try clear hfz10_1
                 try clear hfz10_2
                 try clear hfz12_0
                 try clear hfz12_1
                 try clear hfz12_2
                 try clear hfz30_0
                 try clear hfz30_1
                 try clear hfz30_2
                 try clear hfz39_0
                 try clear hfz39_1
                 try clear hfz39_2
                 try clear hfz40_0
                 try clear hfz40_1
                 try clear hfz40_2
                 try clear hfz42_0
                 try clear hfz42_1
                 try clear hfz42_2
                 try clear hfz43_0
                 try clear hfz43_1
                 try clear hfz43_2
                 try clear hfz45_0
                 try clear hfz45_1
                 try clear hfz45_2
                 try clear hfz46_0
                 try clear hfz46_1
                 try clear hfz46_2
                 try clear hfz53_0
                 try clear hfz53_1
                 try clear hfz53_2
                 try clear hfz54_0
                 try clear hfz54_1
                 try clear hfz54_2
                 try clear hfz56_0
                 try clear hfz56_1
                 try clear hfz56_2
                 try clear hfz57_0
                 try clear hfz57_1
                 try clear hfz57_2
                 try clear hfz59_0
                 try clear hfz59_1
                 try clear hfz59_2
                 try clear hx401_0
                 try clear hx412_0
                 try clear hx412_1
                 try clear hx412_2
                 try clear hx412_3
                 try clear hx412_4
                 try clear hx413_0
                 try clear hx413_1
                 try clear hx413_2
                 try clear hx413_3
                 try clear hx413_4
                 try clear p2
                 try clear p4
                 try clear p40
                 try clear p401
                 try clear p412
                 try clear p413
                 try clear p6
                 try clear q4
                 try clear q40
                 try clear q401
                 try clear q412
                 try clear q413
                 obtain ⟨x16_5, rfl, HA, HK5, HO_7, HO_412001, HO_412002, BK391, BK411, HB⟩ := hrel
                 cases gk with
                 | zero => exact absurd HA.out (by simp [remontoirlaw17_DefCuts.l2])
                 | succ k5 =>
                  have H := HA.out
                  clear HA
                  simp only [remontoirlaw17_DefCuts.l2] at H
                  by_cases c60 : x16_5 < (t406.length : Int)
                  ·
                   rw [if_pos c60] at H
                   have c60b0 : decide (x16_5 < (t406.length : Int)) = true := decide_eq_true c60
                   clear c60
                   by_cases c61 : 0 ≤ x16_5
                   ·
                    rw [if_pos c61] at H
                    have c61b0 : decide (0 ≤ x16_5) = true := decide_eq_true c61
                    clear c61
                    by_cases c62 : x16_5 < (l0_2.length : Int)
                    ·
                     rw [if_pos c62] at H
                     have c62b0 : decide (x16_5 < (l0_2.length : Int)) = true := decide_eq_true c62
                     clear c62
                     by_cases c63 : (!(((rd_T42 t406 x16_5).f0) == ((rd_T42 l0_2 x16_5).f0)) || (!(((rd_T42 t406 x16_5).f1) == ((rd_T42 l0_2 x16_5).f1)) || (!(((rd_T42 t406 x16_5).f2) == ((rd_T42 l0_2 x16_5).f2)) || (!(((rd_T42 t406 x16_5).f3) == ((rd_T42 l0_2 x16_5).f3)) || (!((((rd_T42 t406 x16_5).f4).toList) == (((rd_T42 l0_2 x16_5).f4).toList))))))) = true
                     ·
                      rw [if_pos c63] at H
                      exact absurd (Option.some.inj H) (by rw [hr_]; decide)
                     ·
                      rw [if_neg c63] at H
                      have c63b0 : (!(((rd_T42 t406 x16_5).f0) == ((rd_T42 l0_2 x16_5).f0)) || (!(((rd_T42 t406 x16_5).f1) == ((rd_T42 l0_2 x16_5).f1)) || (!(((rd_T42 t406 x16_5).f2) == ((rd_T42 l0_2 x16_5).f2)) || (!(((rd_T42 t406 x16_5).f3) == ((rd_T42 l0_2 x16_5).f3)) || (!((((rd_T42 t406 x16_5).f4).toList) == (((rd_T42 l0_2 x16_5).f4).toList))))))) = false := by simpa using c63
                      clear c63
                      have H' := Aside0.mk H
                      clear H
                      have hnb67 := NB411_391.out
                      have hnc67 := NB391_411.out
                      have hcz68_0 : wr.cell? ⟨gb411, 0, none⟩ = some (.string t402) := (blk_cell BK411.out 0).trans rfl
                      have hcz68_1 : wr.cell? ⟨gb411, 1, none⟩ = some (.slice Ao31 t403.length co31) := (blk_cell BK411.out 1).trans rfl
                      have hcz68_2 : wr.cell? ⟨gb411, 2, none⟩ = some (.slice Ao32 t406.length co32) := (blk_cell BK411.out 2).trans rfl
                      have hfz68_0 := blk_frozen BK411.out 0
                      have hfz68_1 := blk_frozen BK411.out 1
                      have hfz68_2 := blk_frozen BK411.out 2
                      have p414 : 0 ≤ (x16_5 : Int) := of_decide_eq_true (by first | (with_reducible assumption) | assumption)
                      have q414 : x16_5 < (t406.length : Int) := of_decide_eq_true (by first | (with_reducible assumption) | assumption)
                      obtain ⟨ad414, e414, hx414_0, hx414_1, hx414_2, hx414_3, hx414_4⟩ := at_T42 (Kd.R_reads' HO_412002.out).2.2 x16_5 p414 q414
                      cases e414
                      replace p414 := eq_true p414
                      replace q414 := eq_true q414
                      have hcz69_0 : wr.cell? ⟨gb391, 0, none⟩ = some (.string a0_0) := (blk_cell BK391.out 0).trans rfl
                      have hcz69_1 : wr.cell? ⟨gb391, 1, none⟩ = some (.slice A0_1 l0_1.length c0_1) := (blk_cell BK391.out 1).trans rfl
                      have hcz69_2 : wr.cell? ⟨gb391, 2, none⟩ = some (.slice A0_2 l0_2.length c0_2) := (blk_cell BK391.out 2).trans rfl
                      have hfz69_0 := blk_frozen BK391.out 0
                      have hfz69_1 := blk_frozen BK391.out 1
                      have hfz69_2 := blk_frozen BK391.out 2
                      have p415 : 0 ≤ (x16_5 : Int) := of_decide_eq_true (by first | (with_reducible assumption) | assumption)
                      have q415 : x16_5 < (l0_2.length : Int) := of_decide_eq_true (by first | (with_reducible assumption) | assumption)
                      obtain ⟨ad415, e415, hx415_0, hx415_1, hx415_2, hx415_3, hx415_4⟩ := at_T42 HR0_2.out x16_5 p415 q415
                      cases e415
                      replace hx415_0 := (HB.out.cell (World.block_lt_of_cell? w _ hx415_0)).trans hx415_0
                      replace hx415_1 := (HB.out.cell (World.block_lt_of_cell? w _ hx415_1)).trans hx415_1
                      replace hx415_2 := (HB.out.cell (World.block_lt_of_cell? w _ hx415_2)).trans hx415_2
                      replace hx415_3 := (HB.out.cell (World.block_lt_of_cell? w _ hx415_3)).trans hx415_3
                      replace hx415_4 := (HB.out.cell (World.block_lt_of_cell? w _ hx415_4)).trans hx415_4
                      replace p415 := eq_true p415
                      replace q415 := eq_true q415
                      go_wp2
                      repeat (go_quiet (fail); try go_wp2)
                      go_roundg k5
                      case measure => have := HJ7.out; have := HK2.out; have := HJ25.out; have := HK4.out; have := HK5.out; omega
                      case rel => exact ⟨(wrap64 (x16_5 + 1)), (by first | rfl | (simp; done) | (simp [*]; done)), H', ⟨by have := HJ7.out; have := HK2.out; have := HJ25.out; have := HK4.out; have := HK5.out; omega⟩, ⟨by (with_reducible repeat (first | apply Kd.R_alloc | apply Kd.R_drewN | apply Kd.R_drew)); exact HO_7.out⟩, ⟨by (with_reducible repeat (first | apply Kd.R_alloc | apply Kd.R_drewN | apply Kd.R_drew)); exact HO_412001.out⟩, ⟨by (with_reducible repeat (first | apply Kd.R_alloc | apply Kd.R_drewN | apply Kd.R_drew)); exact HO_412002.out⟩, ⟨by (with_reducible repeat (first | refine blk_drewN ?_ _ | refine blk_drew ?_ | refine blk_alloc ?_ _)); exact BK391.out⟩, ⟨by (with_reducible repeat (first | refine blk_drewN ?_ _ | refine blk_drew ?_ | refine blk_alloc ?_ _)); exact BK411.out⟩, ⟨by repeat (first | (with_reducible first | exact HB.out | apply below_alloc | apply pw_below_drewN | apply below_drew1 | refine below_set ?_ GE391.out | refine below_set ?_ GE411.out) | exact HB.out)⟩⟩
                    ·
                     rw [if_neg c62] at H
                     exact absurd H (by simp)
                   ·
                    rw [if_neg c61] at H
                    exact absurd H (by simp)
                  ·
                   rw [if_neg c60] at H
                   have c60b0 : decide (x16_5 < (t406.length : Int)) = false := decide_eq_false c60
                   clear c60
                   by_cases c70 : 0 < (t397.length : Int)
                   ·
                    rw [if_pos c70] at H
                    have c70b0 : decide (0 < (t397.length : Int)) = true := decide_eq_true c70
                    have c70b1 : decide (0 < t397.length) = true := decide_eq_true (by omega)
                    clear c70
                    obtain ⟨ji71, hji71⟩ : ∃ j_ : Int, (wrap64 (((rdOf ByteArray.empty t397 0).size : Int) + 1)) = j_ := ⟨_, rfl⟩
                    replace H : (if 0 ≤ (ji71) then (if (ji71) ≤ (x10_2.size : Int) then ((def_Parse.f k5 (x10_2.extract ((ji71) : Int).toNat x10_2.size)).bind fun bt417 => (if bt417.2.2.2.1 = 1 then (if bt417.2.2.2.2 = 2 then ((remontoirlaw17_wakes.f k5).bind fun t426 => (some t426)) else (some false)) else (some false))) else (none)) else (none)) = some r := by first | (rw [hji71] at H; exact H) | (simp only [hji71] at H ⊢; exact H)
                    have hji71w : (IntKind.i64.wrap (((rdOf ByteArray.empty t397 0).size : Int) + 1)) = ji71 := (i64_w _).trans hji71
                    by_cases c72 : 0 ≤ (ji71)
                    ·
                     rw [if_pos c72] at H
                     have c72b0 := eq_true c72
                     have c72b1 : decide (0 ≤ (ji71)) = true := decide_eq_true c72
                     clear c72
                     by_cases c73 : (ji71) ≤ (x10_2.size : Int)
                     ·
                      rw [if_pos c73] at H
                      have c73b0 := eq_true c73
                      have c73b1 : decide ((ji71) ≤ (x10_2.size : Int)) = true := decide_eq_true c73
                      clear c73
                      replace H := Option.bind_eq_some_iff.mp H
                      obtain ⟨⟨t417, t418, t421, t424, t425⟩, A740, H⟩ := H
                      replace H : (if t424 = 1 then (if t425 = 2 then ((remontoirlaw17_wakes.f k5).bind fun t426 => (some t426)) else (some false)) else (some false)) = some r := H
                      have A74 := Aside0.mk A740
                      clear A740
                      by_cases c75 : t424 = 1
                      ·
                       rw [if_pos c75] at H
                       have c75b0 : (t424 == 1) = true := beq_iff_eq.mpr c75
                       have c75b1 : (t424 != 1) = false := bne_eq_false_iff_eq.mpr c75
                       clear c75
                       by_cases c76 : t425 = 2
                       ·
                        rw [if_pos c76] at H
                        have c76b0 : (t425 == 2) = true := beq_iff_eq.mpr c76
                        have c76b1 : (t425 != 2) = false := bne_eq_false_iff_eq.mpr c76
                        clear c76
                        replace H := Option.bind_eq_some_iff.mp H
                        obtain ⟨t426, A770, H⟩ := H
                        replace H : (some t426) = some r := H
                        have A77 := Aside0.mk A770
                        clear A770
                        obtain rfl := Option.some.inj H
                        have hnb78 := NB411_391.out
                        have hnc78 := NB391_411.out
                        have hcz79_0 : wr.cell? ⟨gb411, 0, none⟩ = some (.string t402) := (blk_cell BK411.out 0).trans rfl
                        have hcz79_1 : wr.cell? ⟨gb411, 1, none⟩ = some (.slice Ao31 t403.length co31) := (blk_cell BK411.out 1).trans rfl
                        have hcz79_2 : wr.cell? ⟨gb411, 2, none⟩ = some (.slice Ao32 t406.length co32) := (blk_cell BK411.out 2).trans rfl
                        have hfz79_0 := blk_frozen BK411.out 0
                        have hfz79_1 := blk_frozen BK411.out 1
                        have hfz79_2 := blk_frozen BK411.out 2
                        have p416 : 0 ≤ (0 : Int) := (by omega)
                        have q416 : 0 < (t397.length : Int) := of_decide_eq_true (by first | (with_reducible assumption) | assumption)
                        obtain ⟨ad416, e416, hx416_0⟩ := Kd.at_string (Kd.R_reads' HO_7.out).2.2 0 p416 q416
                        cases e416
                        have qi416 : (0 < t397.length) = True := eq_true (by omega)
                        (try rw [show ((0 : Int)).toNat = 0 from rfl] at hx416_0)
                        (try rw [Addr.add_zero'] at hx416_0)
                        replace p416 := eq_true p416
                        replace q416 := eq_true q416
                        go_wp2_with (first | (go_at_call 12; (with_reducible refine (def_Parse.calls k5 (x10_2.extract ((ji71) : Int).toNat x10_2.size) t417 t418 t421 t424 t425 _ A74.out).mono ?_); rintro e w80 ⟨v419, v422, rfl, ho0, ho1, hb⟩; have n0_ := Aside0.mk (Kd.R_below (by (with_reducible repeat (first | apply Kd.R_alloc | apply Kd.R_drewN | apply Kd.R_drew)); exact HO_7.out) hb); have n1_ := Aside0.mk (Kd.R_elder' (by (with_reducible repeat (first | apply Kd.R_alloc | apply Kd.R_drewN | apply Kd.R_drew)); exact HO_412001.out) (Kd.R_base ho0) hb); have n2_ := Aside0.mk (Kd.R_elder' (by (with_reducible repeat (first | apply Kd.R_alloc | apply Kd.R_drewN | apply Kd.R_drew)); exact HO_412002.out) (Kd.R_base ho1) hb); have n3_ := Aside0.mk (Kd.R_lower (Kd.R_new' ho0 (Kd.R_lt (by (with_reducible repeat (first | apply Kd.R_alloc | apply Kd.R_drewN | apply Kd.R_drew)); exact HO_412001.out))) (below_size (by repeat (first | (with_reducible first | exact HB.out | apply below_alloc | apply pw_below_drewN | apply below_drew1 | refine below_set ?_ GE391.out | refine below_set ?_ GE411.out) | exact HB.out)))); have n4_ := Aside0.mk (Kd.R_lower (Kd.R_new' ho1 (Kd.R_lt (by (with_reducible repeat (first | apply Kd.R_alloc | apply Kd.R_drewN | apply Kd.R_drew)); exact HO_412002.out))) (below_size (by repeat (first | (with_reducible first | exact HB.out | apply below_alloc | apply pw_below_drewN | apply below_drew1 | refine below_set ?_ GE391.out | refine below_set ?_ GE411.out) | exact HB.out)))); have n5_ := Aside0.mk (blk_below (g := gb391) (o := .cells #[.string a0_0, .slice A0_1 l0_1.length c0_1, .slice A0_2 l0_2.length c0_2] 25 (0, 0)) (by (with_reducible repeat (first | refine blk_drewN ?_ _ | refine blk_drew ?_ | refine blk_alloc ?_ _)); exact BK391.out) hb); have n6_ := Aside0.mk (blk_below (g := gb411) (o := .cells #[.string t402, .slice Ao31 t403.length co31, .slice Ao32 t406.length co32] 25 (0, 0)) (by (with_reducible repeat (first | refine blk_drewN ?_ _ | refine blk_drew ?_ | refine blk_alloc ?_ _)); exact BK411.out) hb); have n7_ := Aside0.mk (below_step (by repeat (first | (with_reducible first | exact HB.out | apply below_alloc | apply pw_below_drewN | apply below_drew1 | refine below_set ?_ GE391.out | refine below_set ?_ GE411.out) | exact HB.out)) hb); clear HO_7; clear HO_412001; clear HO_412002; clear BK391; clear BK411; clear HB; have HO_7 := n0_; have HO_412001 := n1_; have HO_412002 := n2_; have HO420 := n3_; have HO423 := n4_; have BK391 := n5_; have BK411 := n6_; have HB := n7_; clear n0_ n1_ n2_ n3_ n4_ n5_ n6_ n7_; (try clear hb); (try clear hb2); (try clear hk); (try clear hi); (try clear ho0); (try clear ho1)) | (go_at_call 9; (with_reducible refine (remontoirlaw17_wakes.calls k5  t426 _ (Tab.below hTab (by repeat (first | exact HB.out | apply below_alloc | apply pw_below_drewN | apply below_drew1 | (refine below_set ?_ (Aside0.out ?_) <;> (first | assumption | skip)))))  A77.out).mono ?_); rintro e w81 ⟨rfl, hb⟩; have n0_ := Aside0.mk (Kd.R_below (by (with_reducible repeat (first | apply Kd.R_alloc | apply Kd.R_drewN | apply Kd.R_drew)); exact HO_7.out) hb); have n1_ := Aside0.mk (Kd.R_below (by (with_reducible repeat (first | apply Kd.R_alloc | apply Kd.R_drewN | apply Kd.R_drew)); exact HO_412001.out) hb); have n2_ := Aside0.mk (Kd.R_below (by (with_reducible repeat (first | apply Kd.R_alloc | apply Kd.R_drewN | apply Kd.R_drew)); exact HO_412002.out) hb); have n3_ := Aside0.mk (Kd.R_below (by (with_reducible repeat (first | apply Kd.R_alloc | apply Kd.R_drewN | apply Kd.R_drew)); exact HO420.out) hb); have n4_ := Aside0.mk (Kd.R_below (by (with_reducible repeat (first | apply Kd.R_alloc | apply Kd.R_drewN | apply Kd.R_drew)); exact HO423.out) hb); have n5_ := Aside0.mk (blk_below (g := gb391) (o := .cells #[.string a0_0, .slice A0_1 l0_1.length c0_1, .slice A0_2 l0_2.length c0_2] 25 (0, 0)) (by (with_reducible repeat (first | refine blk_drewN ?_ _ | refine blk_drew ?_ | refine blk_alloc ?_ _)); exact BK391.out) hb); have n6_ := Aside0.mk (blk_below (g := gb411) (o := .cells #[.string t402, .slice Ao31 t403.length co31, .slice Ao32 t406.length co32] 25 (0, 0)) (by (with_reducible repeat (first | refine blk_drewN ?_ _ | refine blk_drew ?_ | refine blk_alloc ?_ _)); exact BK411.out) hb); have n7_ := Aside0.mk (below_step (by repeat (first | (with_reducible first | exact HB.out | apply below_alloc | apply pw_below_drewN | apply below_drew1 | refine below_set ?_ GE391.out | refine below_set ?_ GE411.out) | exact HB.out)) hb); clear HO_7; clear HO_412001; clear HO_412002; clear HO420; clear HO423; clear BK391; clear BK411; clear HB; have HO_7 := n0_; have HO_412001 := n1_; have HO_412002 := n2_; have HO420 := n3_; have HO423 := n4_; have BK391 := n5_; have BK411 := n6_; have HB := n7_; clear n0_ n1_ n2_ n3_ n4_ n5_ n6_ n7_; (try clear hb); (try clear hb2); (try clear hk); (try clear hi)))
                        repeat (go_quiet (first | (go_at_call 12; (with_reducible refine (def_Parse.calls k5 (x10_2.extract ((ji71) : Int).toNat x10_2.size) t417 t418 t421 t424 t425 _ A74.out).mono ?_); rintro e w80 ⟨v419, v422, rfl, ho0, ho1, hb⟩; have n0_ := Aside0.mk (Kd.R_below (by (with_reducible repeat (first | apply Kd.R_alloc | apply Kd.R_drewN | apply Kd.R_drew)); exact HO_7.out) hb); have n1_ := Aside0.mk (Kd.R_elder' (by (with_reducible repeat (first | apply Kd.R_alloc | apply Kd.R_drewN | apply Kd.R_drew)); exact HO_412001.out) (Kd.R_base ho0) hb); have n2_ := Aside0.mk (Kd.R_elder' (by (with_reducible repeat (first | apply Kd.R_alloc | apply Kd.R_drewN | apply Kd.R_drew)); exact HO_412002.out) (Kd.R_base ho1) hb); have n3_ := Aside0.mk (Kd.R_lower (Kd.R_new' ho0 (Kd.R_lt (by (with_reducible repeat (first | apply Kd.R_alloc | apply Kd.R_drewN | apply Kd.R_drew)); exact HO_412001.out))) (below_size (by repeat (first | (with_reducible first | exact HB.out | apply below_alloc | apply pw_below_drewN | apply below_drew1 | refine below_set ?_ GE391.out | refine below_set ?_ GE411.out) | exact HB.out)))); have n4_ := Aside0.mk (Kd.R_lower (Kd.R_new' ho1 (Kd.R_lt (by (with_reducible repeat (first | apply Kd.R_alloc | apply Kd.R_drewN | apply Kd.R_drew)); exact HO_412002.out))) (below_size (by repeat (first | (with_reducible first | exact HB.out | apply below_alloc | apply pw_below_drewN | apply below_drew1 | refine below_set ?_ GE391.out | refine below_set ?_ GE411.out) | exact HB.out)))); have n5_ := Aside0.mk (blk_below (g := gb391) (o := .cells #[.string a0_0, .slice A0_1 l0_1.length c0_1, .slice A0_2 l0_2.length c0_2] 25 (0, 0)) (by (with_reducible repeat (first | refine blk_drewN ?_ _ | refine blk_drew ?_ | refine blk_alloc ?_ _)); exact BK391.out) hb); have n6_ := Aside0.mk (blk_below (g := gb411) (o := .cells #[.string t402, .slice Ao31 t403.length co31, .slice Ao32 t406.length co32] 25 (0, 0)) (by (with_reducible repeat (first | refine blk_drewN ?_ _ | refine blk_drew ?_ | refine blk_alloc ?_ _)); exact BK411.out) hb); have n7_ := Aside0.mk (below_step (by repeat (first | (with_reducible first | exact HB.out | apply below_alloc | apply pw_below_drewN | apply below_drew1 | refine below_set ?_ GE391.out | refine below_set ?_ GE411.out) | exact HB.out)) hb); clear HO_7; clear HO_412001; clear HO_412002; clear BK391; clear BK411; clear HB; have HO_7 := n0_; have HO_412001 := n1_; have HO_412002 := n2_; have HO420 := n3_; have HO423 := n4_; have BK391 := n5_; have BK411 := n6_; have HB := n7_; clear n0_ n1_ n2_ n3_ n4_ n5_ n6_ n7_; (try clear hb); (try clear hb2); (try clear hk); (try clear hi); (try clear ho0); (try clear ho1)) | (go_at_call 9; (with_reducible refine (remontoirlaw17_wakes.calls k5  t426 _ (Tab.below hTab (by repeat (first | exact HB.out | apply below_alloc | apply pw_below_drewN | apply below_drew1 | (refine below_set ?_ (Aside0.out ?_) <;> (first | assumption | skip)))))  A77.out).mono ?_); rintro e w81 ⟨rfl, hb⟩; have n0_ := Aside0.mk (Kd.R_below (by (with_reducible repeat (first | apply Kd.R_alloc | apply Kd.R_drewN | apply Kd.R_drew)); exact HO_7.out) hb); have n1_ := Aside0.mk (Kd.R_below (by (with_reducible repeat (first | apply Kd.R_alloc | apply Kd.R_drewN | apply Kd.R_drew)); exact HO_412001.out) hb); have n2_ := Aside0.mk (Kd.R_below (by (with_reducible repeat (first | apply Kd.R_alloc | apply Kd.R_drewN | apply Kd.R_drew)); exact HO_412002.out) hb); have n3_ := Aside0.mk (Kd.R_below (by (with_reducible repeat (first | apply Kd.R_alloc | apply Kd.R_drewN | apply Kd.R_drew)); exact HO420.out) hb); have n4_ := Aside0.mk (Kd.R_below (by (with_reducible repeat (first | apply Kd.R_alloc | apply Kd.R_drewN | apply Kd.R_drew)); exact HO423.out) hb); have n5_ := Aside0.mk (blk_below (g := gb391) (o := .cells #[.string a0_0, .slice A0_1 l0_1.length c0_1, .slice A0_2 l0_2.length c0_2] 25 (0, 0)) (by (with_reducible repeat (first | refine blk_drewN ?_ _ | refine blk_drew ?_ | refine blk_alloc ?_ _)); exact BK391.out) hb); have n6_ := Aside0.mk (blk_below (g := gb411) (o := .cells #[.string t402, .slice Ao31 t403.length co31, .slice Ao32 t406.length co32] 25 (0, 0)) (by (with_reducible repeat (first | refine blk_drewN ?_ _ | refine blk_drew ?_ | refine blk_alloc ?_ _)); exact BK411.out) hb); have n7_ := Aside0.mk (below_step (by repeat (first | (with_reducible first | exact HB.out | apply below_alloc | apply pw_below_drewN | apply below_drew1 | refine below_set ?_ GE391.out | refine below_set ?_ GE411.out) | exact HB.out)) hb); clear HO_7; clear HO_412001; clear HO_412002; clear HO420; clear HO423; clear BK391; clear BK411; clear HB; have HO_7 := n0_; have HO_412001 := n1_; have HO_412002 := n2_; have HO420 := n3_; have HO423 := n4_; have BK391 := n5_; have BK411 := n6_; have HB := n7_; clear n0_ n1_ n2_ n3_ n4_ n5_ n6_ n7_; (try clear hb); (try clear hb2); (try clear hk); (try clear hi))); try go_wp2_with (first | (go_at_call 12; (with_reducible refine (def_Parse.calls k5 (x10_2.extract ((ji71) : Int).toNat x10_2.size) t417 t418 t421 t424 t425 _ A74.out).mono ?_); rintro e w80 ⟨v419, v422, rfl, ho0, ho1, hb⟩; have n0_ := Aside0.mk (Kd.R_below (by (with_reducible repeat (first | apply Kd.R_alloc | apply Kd.R_drewN | apply Kd.R_drew)); exact HO_7.out) hb); have n1_ := Aside0.mk (Kd.R_elder' (by (with_reducible repeat (first | apply Kd.R_alloc | apply Kd.R_drewN | apply Kd.R_drew)); exact HO_412001.out) (Kd.R_base ho0) hb); have n2_ := Aside0.mk (Kd.R_elder' (by (with_reducible repeat (first | apply Kd.R_alloc | apply Kd.R_drewN | apply Kd.R_drew)); exact HO_412002.out) (Kd.R_base ho1) hb); have n3_ := Aside0.mk (Kd.R_lower (Kd.R_new' ho0 (Kd.R_lt (by (with_reducible repeat (first | apply Kd.R_alloc | apply Kd.R_drewN | apply Kd.R_drew)); exact HO_412001.out))) (below_size (by repeat (first | (with_reducible first | exact HB.out | apply below_alloc | apply pw_below_drewN | apply below_drew1 | refine below_set ?_ GE391.out | refine below_set ?_ GE411.out) | exact HB.out)))); have n4_ := Aside0.mk (Kd.R_lower (Kd.R_new' ho1 (Kd.R_lt (by (with_reducible repeat (first | apply Kd.R_alloc | apply Kd.R_drewN | apply Kd.R_drew)); exact HO_412002.out))) (below_size (by repeat (first | (with_reducible first | exact HB.out | apply below_alloc | apply pw_below_drewN | apply below_drew1 | refine below_set ?_ GE391.out | refine below_set ?_ GE411.out) | exact HB.out)))); have n5_ := Aside0.mk (blk_below (g := gb391) (o := .cells #[.string a0_0, .slice A0_1 l0_1.length c0_1, .slice A0_2 l0_2.length c0_2] 25 (0, 0)) (by (with_reducible repeat (first | refine blk_drewN ?_ _ | refine blk_drew ?_ | refine blk_alloc ?_ _)); exact BK391.out) hb); have n6_ := Aside0.mk (blk_below (g := gb411) (o := .cells #[.string t402, .slice Ao31 t403.length co31, .slice Ao32 t406.length co32] 25 (0, 0)) (by (with_reducible repeat (first | refine blk_drewN ?_ _ | refine blk_drew ?_ | refine blk_alloc ?_ _)); exact BK411.out) hb); have n7_ := Aside0.mk (below_step (by repeat (first | (with_reducible first | exact HB.out | apply below_alloc | apply pw_below_drewN | apply below_drew1 | refine below_set ?_ GE391.out | refine below_set ?_ GE411.out) | exact HB.out)) hb); clear HO_7; clear HO_412001; clear HO_412002; clear BK391; clear BK411; clear HB; have HO_7 := n0_; have HO_412001 := n1_; have HO_412002 := n2_; have HO420 := n3_; have HO423 := n4_; have BK391 := n5_; have BK411 := n6_; have HB := n7_; clear n0_ n1_ n2_ n3_ n4_ n5_ n6_ n7_; (try clear hb); (try clear hb2); (try clear hk); (try clear hi); (try clear ho0); (try clear ho1)) | (go_at_call 9; (with_reducible refine (remontoirlaw17_wakes.calls k5  t426 _ (Tab.below hTab (by repeat (first | exact HB.out | apply below_alloc | apply pw_below_drewN | apply below_drew1 | (refine below_set ?_ (Aside0.out ?_) <;> (first | assumption | skip)))))  A77.out).mono ?_); rintro e w81 ⟨rfl, hb⟩; have n0_ := Aside0.mk (Kd.R_below (by (with_reducible repeat (first | apply Kd.R_alloc | apply Kd.R_drewN | apply Kd.R_drew)); exact HO_7.out) hb); have n1_ := Aside0.mk (Kd.R_below (by (with_reducible repeat (first | apply Kd.R_alloc | apply Kd.R_drewN | apply Kd.R_drew)); exact HO_412001.out) hb); have n2_ := Aside0.mk (Kd.R_below (by (with_reducible repeat (first | apply Kd.R_alloc | apply Kd.R_drewN | apply Kd.R_drew)); exact HO_412002.out) hb); have n3_ := Aside0.mk (Kd.R_below (by (with_reducible repeat (first | apply Kd.R_alloc | apply Kd.R_drewN | apply Kd.R_drew)); exact HO420.out) hb); have n4_ := Aside0.mk (Kd.R_below (by (with_reducible repeat (first | apply Kd.R_alloc | apply Kd.R_drewN | apply Kd.R_drew)); exact HO423.out) hb); have n5_ := Aside0.mk (blk_below (g := gb391) (o := .cells #[.string a0_0, .slice A0_1 l0_1.length c0_1, .slice A0_2 l0_2.length c0_2] 25 (0, 0)) (by (with_reducible repeat (first | refine blk_drewN ?_ _ | refine blk_drew ?_ | refine blk_alloc ?_ _)); exact BK391.out) hb); have n6_ := Aside0.mk (blk_below (g := gb411) (o := .cells #[.string t402, .slice Ao31 t403.length co31, .slice Ao32 t406.length co32] 25 (0, 0)) (by (with_reducible repeat (first | refine blk_drewN ?_ _ | refine blk_drew ?_ | refine blk_alloc ?_ _)); exact BK411.out) hb); have n7_ := Aside0.mk (below_step (by repeat (first | (with_reducible first | exact HB.out | apply below_alloc | apply pw_below_drewN | apply below_drew1 | refine below_set ?_ GE391.out | refine below_set ?_ GE411.out) | exact HB.out)) hb); clear HO_7; clear HO_412001; clear HO_412002; clear HO420; clear HO423; clear BK391; clear BK411; clear HB; have HO_7 := n0_; have HO_412001 := n1_; have HO_412002 := n2_; have HO420 := n3_; have HO423 := n4_; have BK391 := n5_; have BK411 := n6_; have HB := n7_; clear n0_ n1_ n2_ n3_ n4_ n5_ n6_ n7_; (try clear hb); (try clear hb2); (try clear hk); (try clear hi))))
                        go_ret
                        exact ⟨by first | rfl | (simp [errW_none, errW_some] <;> rfl) | (simp only [← hji71]; first | rfl | (simp [errW_none, errW_some] <;> rfl)) | (simp [*, errW_none, errW_some] <;> rfl), by repeat (first | (with_reducible first | exact HB.out | apply below_alloc | apply pw_below_drewN | apply below_drew1 | refine below_set ?_ GE391.out | refine below_set ?_ GE411.out) | exact HB.out)⟩
                       ·
                        rw [if_neg c76] at H
                        exact absurd (Option.some.inj H) (by rw [hr_]; decide)
                      ·
                       rw [if_neg c75] at H
                       exact absurd (Option.some.inj H) (by rw [hr_]; decide)
                     ·
                      rw [if_neg c73] at H
                      exact absurd H (by simp)
                    ·
                     rw [if_neg c72] at H
                     exact absurd H (by simp)
                   ·
                    rw [if_neg c70] at H
                    exact absurd H (by simp)
  ·
   replace c6 := Bool.eq_false_iff.mpr c6
   subst c6
   have H1 : ((remontoirlaw17_wakes.f k).bind fun t396 => (some t396)) = some r := by rw [if_neg (show ¬ (false = true) by decide)] at H; exact H
   clear H
   have H := H1
   clear H1
   replace H := Option.bind_eq_some_iff.mp H
   obtain ⟨t396, A880, H⟩ := H
   replace H : (some t396) = some r := H
   have A88 := Aside0.mk A880
   clear A880
   obtain rfl := Option.some.inj H
   go_enter Tryd.func5, Tryd.ntmps5
   go_wp2_with (first | ((with_reducible refine gate_dst (N := 2) rfl ?_); (try (refine gate_guard (by rfl) ?_; dsimp only)); refine box_event ?hg (N := 2) ?hd (cs := #[.string a0_0, .slice A0_1 l0_1.length c0_1, .slice A0_2 l0_2.length c0_2]) (t := 25) ?hr ?_; (case hd => rfl); (case hg => rfl); (case hr => first | (go_simp; done) | (go_simp; rfl)); intro gb391 hg w89 hbox hb; have n0_ := Aside0.mk (below_step (by repeat (first | (with_reducible first | exact HB.out | apply below_alloc | apply pw_below_drewN | apply below_drew1) | exact HB.out)) hb); have n1_ := Aside0.mk (hbox); have n2_ := Aside0.mk ((by rw [hg]; exact (below_size (by repeat (first | (with_reducible first | exact HB.out | apply below_alloc | apply pw_below_drewN | apply below_drew1) | exact HB.out))) : w.heap.size ≤ gb391)); have n3_ := Aside0.mk ((by rw [hg]; exact (below_size (by repeat (first | (with_reducible first | exact HB.out | apply below_alloc | apply pw_below_drewN | apply below_drew1) | exact HB.out))) : w.heap.size ≤ gb391)); clear HB; have HB := n0_; have BK391 := n1_; have GW391 := n2_; have GE391 := n3_; clear n0_ n1_ n2_ n3_; clear hb hbox hg; have hcz90_0 : w89.cell? ⟨gb391, 0, none⟩ = some (.string a0_0) := (blk_cell BK391.out 0).trans rfl; have hcz90_1 : w89.cell? ⟨gb391, 1, none⟩ = some (.slice A0_1 l0_1.length c0_1) := (blk_cell BK391.out 1).trans rfl; have hcz90_2 : w89.cell? ⟨gb391, 2, none⟩ = some (.slice A0_2 l0_2.length c0_2) := (blk_cell BK391.out 2).trans rfl; have hfz90_0 := blk_frozen BK391.out 0; have hfz90_1 := blk_frozen BK391.out 1; have hfz90_2 := blk_frozen BK391.out 2) | (go_at_call 8; (with_reducible refine (remontoirkeep_LightDef.calls k a0_0 _ _ l0_1 _ _ l0_2 true _ ?side1 ?side2 ?side3 ?side4 A3.out).mono ?_); (case side1 => repeat (first | exact (Kd.C_below HR0_1.out HB.out) | (with_reducible refine Kd.C_alloc ?_ _) | (with_reducible refine Kd.C_drewN ?_ _) | (with_reducible refine Kd.C_drew ?_))); (case side2 => exact HC0_1.out); (case side3 => repeat (first | exact (Kd.C_below HR0_2.out HB.out) | (with_reducible refine Kd.C_alloc ?_ _) | (with_reducible refine Kd.C_drewN ?_ _) | (with_reducible refine Kd.C_drew ?_))); (case side4 => exact HC0_2.out); rintro e w91 ⟨rfl, hb⟩; have n0_ := Aside0.mk (blk_below (g := gb391) (o := .cells #[.string a0_0, .slice A0_1 l0_1.length c0_1, .slice A0_2 l0_2.length c0_2] 25 (0, 0)) (by (with_reducible repeat (first | refine blk_drewN ?_ _ | refine blk_drew ?_ | refine blk_alloc ?_ _)); exact BK391.out) hb); have n1_ := Aside0.mk (below_step (by repeat (first | (with_reducible first | exact HB.out | apply below_alloc | apply pw_below_drewN | apply below_drew1 | refine below_set ?_ GE391.out) | exact HB.out)) hb); clear BK391; clear HB; have BK391 := n0_; have HB := n1_; clear n0_ n1_; (try clear hb); (try clear hb2); (try clear hk); (try clear hi); have hcz92_0 : w91.cell? ⟨gb391, 0, none⟩ = some (.string a0_0) := (blk_cell BK391.out 0).trans rfl; have hcz92_1 : w91.cell? ⟨gb391, 1, none⟩ = some (.slice A0_1 l0_1.length c0_1) := (blk_cell BK391.out 1).trans rfl; have hcz92_2 : w91.cell? ⟨gb391, 2, none⟩ = some (.slice A0_2 l0_2.length c0_2) := (blk_cell BK391.out 2).trans rfl; have hfz92_0 := blk_frozen BK391.out 0; have hfz92_1 := blk_frozen BK391.out 1; have hfz92_2 := blk_frozen BK391.out 2) | (go_at_call 10; (with_reducible refine (def_Print.calls k a0_0 _ _ l0_1 _ _ l0_2 t394 false _ (Tab.below hTab (by repeat (first | exact HB.out | apply below_alloc | apply pw_below_drewN | apply below_drew1 | (refine below_set ?_ (Aside0.out ?_) <;> (first | assumption | skip)))))  ?side1 ?side2 ?side3 ?side4 A5.out).mono ?_); (case side1 => repeat (first | exact (Kd.C_below HR0_1.out HB.out) | (with_reducible refine Kd.C_alloc ?_ _) | (with_reducible refine Kd.C_drewN ?_ _) | (with_reducible refine Kd.C_drew ?_))); (case side2 => exact HC0_1.out); (case side3 => repeat (first | exact (Kd.C_below HR0_2.out HB.out) | (with_reducible refine Kd.C_alloc ?_ _) | (with_reducible refine Kd.C_drewN ?_ _) | (with_reducible refine Kd.C_drew ?_))); (case side4 => exact HC0_2.out); rintro e w93 ⟨rfl, hb⟩; have n0_ := Aside0.mk (blk_below (g := gb391) (o := .cells #[.string a0_0, .slice A0_1 l0_1.length c0_1, .slice A0_2 l0_2.length c0_2] 25 (0, 0)) (by (with_reducible repeat (first | refine blk_drewN ?_ _ | refine blk_drew ?_ | refine blk_alloc ?_ _)); exact BK391.out) hb); have n1_ := Aside0.mk (below_step (by repeat (first | (with_reducible first | exact HB.out | apply below_alloc | apply pw_below_drewN | apply below_drew1 | refine below_set ?_ GE391.out) | exact HB.out)) hb); clear BK391; clear HB; have BK391 := n0_; have HB := n1_; clear n0_ n1_; (try clear hb); (try clear hb2); (try clear hk); (try clear hi)) | (go_at_call 9; (with_reducible refine (remontoirlaw17_wakes.calls k  t396 _ (Tab.below hTab (by repeat (first | exact HB.out | apply below_alloc | apply pw_below_drewN | apply below_drew1 | (refine below_set ?_ (Aside0.out ?_) <;> (first | assumption | skip)))))  A88.out).mono ?_); rintro e w94 ⟨rfl, hb⟩; have n0_ := Aside0.mk (blk_below (g := gb391) (o := .cells #[.string a0_0, .slice A0_1 l0_1.length c0_1, .slice A0_2 l0_2.length c0_2] 25 (0, 0)) (by (with_reducible repeat (first | refine blk_drewN ?_ _ | refine blk_drew ?_ | refine blk_alloc ?_ _)); exact BK391.out) hb); have n1_ := Aside0.mk (below_step (by repeat (first | (with_reducible first | exact HB.out | apply below_alloc | apply pw_below_drewN | apply below_drew1 | refine below_set ?_ GE391.out) | exact HB.out)) hb); clear BK391; clear HB; have BK391 := n0_; have HB := n1_; clear n0_ n1_; (try clear hb); (try clear hb2); (try clear hk); (try clear hi)))
   repeat (go_quiet (first | ((with_reducible refine gate_dst (N := 2) rfl ?_); (try (refine gate_guard (by rfl) ?_; dsimp only)); refine box_event ?hg (N := 2) ?hd (cs := #[.string a0_0, .slice A0_1 l0_1.length c0_1, .slice A0_2 l0_2.length c0_2]) (t := 25) ?hr ?_; (case hd => rfl); (case hg => rfl); (case hr => first | (go_simp; done) | (go_simp; rfl)); intro gb391 hg w89 hbox hb; have n0_ := Aside0.mk (below_step (by repeat (first | (with_reducible first | exact HB.out | apply below_alloc | apply pw_below_drewN | apply below_drew1) | exact HB.out)) hb); have n1_ := Aside0.mk (hbox); have n2_ := Aside0.mk ((by rw [hg]; exact (below_size (by repeat (first | (with_reducible first | exact HB.out | apply below_alloc | apply pw_below_drewN | apply below_drew1) | exact HB.out))) : w.heap.size ≤ gb391)); have n3_ := Aside0.mk ((by rw [hg]; exact (below_size (by repeat (first | (with_reducible first | exact HB.out | apply below_alloc | apply pw_below_drewN | apply below_drew1) | exact HB.out))) : w.heap.size ≤ gb391)); clear HB; have HB := n0_; have BK391 := n1_; have GW391 := n2_; have GE391 := n3_; clear n0_ n1_ n2_ n3_; clear hb hbox hg; have hcz90_0 : w89.cell? ⟨gb391, 0, none⟩ = some (.string a0_0) := (blk_cell BK391.out 0).trans rfl; have hcz90_1 : w89.cell? ⟨gb391, 1, none⟩ = some (.slice A0_1 l0_1.length c0_1) := (blk_cell BK391.out 1).trans rfl; have hcz90_2 : w89.cell? ⟨gb391, 2, none⟩ = some (.slice A0_2 l0_2.length c0_2) := (blk_cell BK391.out 2).trans rfl; have hfz90_0 := blk_frozen BK391.out 0; have hfz90_1 := blk_frozen BK391.out 1; have hfz90_2 := blk_frozen BK391.out 2) | (go_at_call 8; (with_reducible refine (remontoirkeep_LightDef.calls k a0_0 _ _ l0_1 _ _ l0_2 true _ ?side1 ?side2 ?side3 ?side4 A3.out).mono ?_); (case side1 => repeat (first | exact (Kd.C_below HR0_1.out HB.out) | (with_reducible refine Kd.C_alloc ?_ _) | (with_reducible refine Kd.C_drewN ?_ _) | (with_reducible refine Kd.C_drew ?_))); (case side2 => exact HC0_1.out); (case side3 => repeat (first | exact (Kd.C_below HR0_2.out HB.out) | (with_reducible refine Kd.C_alloc ?_ _) | (with_reducible refine Kd.C_drewN ?_ _) | (with_reducible refine Kd.C_drew ?_))); (case side4 => exact HC0_2.out); rintro e w91 ⟨rfl, hb⟩; have n0_ := Aside0.mk (blk_below (g := gb391) (o := .cells #[.string a0_0, .slice A0_1 l0_1.length c0_1, .slice A0_2 l0_2.length c0_2] 25 (0, 0)) (by (with_reducible repeat (first | refine blk_drewN ?_ _ | refine blk_drew ?_ | refine blk_alloc ?_ _)); exact BK391.out) hb); have n1_ := Aside0.mk (below_step (by repeat (first | (with_reducible first | exact HB.out | apply below_alloc | apply pw_below_drewN | apply below_drew1 | refine below_set ?_ GE391.out) | exact HB.out)) hb); clear BK391; clear HB; have BK391 := n0_; have HB := n1_; clear n0_ n1_; (try clear hb); (try clear hb2); (try clear hk); (try clear hi); have hcz92_0 : w91.cell? ⟨gb391, 0, none⟩ = some (.string a0_0) := (blk_cell BK391.out 0).trans rfl; have hcz92_1 : w91.cell? ⟨gb391, 1, none⟩ = some (.slice A0_1 l0_1.length c0_1) := (blk_cell BK391.out 1).trans rfl; have hcz92_2 : w91.cell? ⟨gb391, 2, none⟩ = some (.slice A0_2 l0_2.length c0_2) := (blk_cell BK391.out 2).trans rfl; have hfz92_0 := blk_frozen BK391.out 0; have hfz92_1 := blk_frozen BK391.out 1; have hfz92_2 := blk_frozen BK391.out 2) | (go_at_call 10; (with_reducible refine (def_Print.calls k a0_0 _ _ l0_1 _ _ l0_2 t394 false _ (Tab.below hTab (by repeat (first | exact HB.out | apply below_alloc | apply pw_below_drewN | apply below_drew1 | (refine below_set ?_ (Aside0.out ?_) <;> (first | assumption | skip)))))  ?side1 ?side2 ?side3 ?side4 A5.out).mono ?_); (case side1 => repeat (first | exact (Kd.C_below HR0_1.out HB.out) | (with_reducible refine Kd.C_alloc ?_ _) | (with_reducible refine Kd.C_drewN ?_ _) | (with_reducible refine Kd.C_drew ?_))); (case side2 => exact HC0_1.out); (case side3 => repeat (first | exact (Kd.C_below HR0_2.out HB.out) | (with_reducible refine Kd.C_alloc ?_ _) | (with_reducible refine Kd.C_drewN ?_ _) | (with_reducible refine Kd.C_drew ?_))); (case side4 => exact HC0_2.out); rintro e w93 ⟨rfl, hb⟩; have n0_ := Aside0.mk (blk_below (g := gb391) (o := .cells #[.string a0_0, .slice A0_1 l0_1.length c0_1, .slice A0_2 l0_2.length c0_2] 25 (0, 0)) (by (with_reducible repeat (first | refine blk_drewN ?_ _ | refine blk_drew ?_ | refine blk_alloc ?_ _)); exact BK391.out) hb); have n1_ := Aside0.mk (below_step (by repeat (first | (with_reducible first | exact HB.out | apply below_alloc | apply pw_below_drewN | apply below_drew1 | refine below_set ?_ GE391.out) | exact HB.out)) hb); clear BK391; clear HB; have BK391 := n0_; have HB := n1_; clear n0_ n1_; (try clear hb); (try clear hb2); (try clear hk); (try clear hi)) | (go_at_call 9; (with_reducible refine (remontoirlaw17_wakes.calls k  t396 _ (Tab.below hTab (by repeat (first | exact HB.out | apply below_alloc | apply pw_below_drewN | apply below_drew1 | (refine below_set ?_ (Aside0.out ?_) <;> (first | assumption | skip)))))  A88.out).mono ?_); rintro e w94 ⟨rfl, hb⟩; have n0_ := Aside0.mk (blk_below (g := gb391) (o := .cells #[.string a0_0, .slice A0_1 l0_1.length c0_1, .slice A0_2 l0_2.length c0_2] 25 (0, 0)) (by (with_reducible repeat (first | refine blk_drewN ?_ _ | refine blk_drew ?_ | refine blk_alloc ?_ _)); exact BK391.out) hb); have n1_ := Aside0.mk (below_step (by repeat (first | (with_reducible first | exact HB.out | apply below_alloc | apply pw_below_drewN | apply below_drew1 | refine below_set ?_ GE391.out) | exact HB.out)) hb); clear BK391; clear HB; have BK391 := n0_; have HB := n1_; clear n0_ n1_; (try clear hb); (try clear hb2); (try clear hk); (try clear hi))); try go_wp2_with (first | ((with_reducible refine gate_dst (N := 2) rfl ?_); (try (refine gate_guard (by rfl) ?_; dsimp only)); refine box_event ?hg (N := 2) ?hd (cs := #[.string a0_0, .slice A0_1 l0_1.length c0_1, .slice A0_2 l0_2.length c0_2]) (t := 25) ?hr ?_; (case hd => rfl); (case hg => rfl); (case hr => first | (go_simp; done) | (go_simp; rfl)); intro gb391 hg w89 hbox hb; have n0_ := Aside0.mk (below_step (by repeat (first | (with_reducible first | exact HB.out | apply below_alloc | apply pw_below_drewN | apply below_drew1) | exact HB.out)) hb); have n1_ := Aside0.mk (hbox); have n2_ := Aside0.mk ((by rw [hg]; exact (below_size (by repeat (first | (with_reducible first | exact HB.out | apply below_alloc | apply pw_below_drewN | apply below_drew1) | exact HB.out))) : w.heap.size ≤ gb391)); have n3_ := Aside0.mk ((by rw [hg]; exact (below_size (by repeat (first | (with_reducible first | exact HB.out | apply below_alloc | apply pw_below_drewN | apply below_drew1) | exact HB.out))) : w.heap.size ≤ gb391)); clear HB; have HB := n0_; have BK391 := n1_; have GW391 := n2_; have GE391 := n3_; clear n0_ n1_ n2_ n3_; clear hb hbox hg; have hcz90_0 : w89.cell? ⟨gb391, 0, none⟩ = some (.string a0_0) := (blk_cell BK391.out 0).trans rfl; have hcz90_1 : w89.cell? ⟨gb391, 1, none⟩ = some (.slice A0_1 l0_1.length c0_1) := (blk_cell BK391.out 1).trans rfl; have hcz90_2 : w89.cell? ⟨gb391, 2, none⟩ = some (.slice A0_2 l0_2.length c0_2) := (blk_cell BK391.out 2).trans rfl; have hfz90_0 := blk_frozen BK391.out 0; have hfz90_1 := blk_frozen BK391.out 1; have hfz90_2 := blk_frozen BK391.out 2) | (go_at_call 8; (with_reducible refine (remontoirkeep_LightDef.calls k a0_0 _ _ l0_1 _ _ l0_2 true _ ?side1 ?side2 ?side3 ?side4 A3.out).mono ?_); (case side1 => repeat (first | exact (Kd.C_below HR0_1.out HB.out) | (with_reducible refine Kd.C_alloc ?_ _) | (with_reducible refine Kd.C_drewN ?_ _) | (with_reducible refine Kd.C_drew ?_))); (case side2 => exact HC0_1.out); (case side3 => repeat (first | exact (Kd.C_below HR0_2.out HB.out) | (with_reducible refine Kd.C_alloc ?_ _) | (with_reducible refine Kd.C_drewN ?_ _) | (with_reducible refine Kd.C_drew ?_))); (case side4 => exact HC0_2.out); rintro e w91 ⟨rfl, hb⟩; have n0_ := Aside0.mk (blk_below (g := gb391) (o := .cells #[.string a0_0, .slice A0_1 l0_1.length c0_1, .slice A0_2 l0_2.length c0_2] 25 (0, 0)) (by (with_reducible repeat (first | refine blk_drewN ?_ _ | refine blk_drew ?_ | refine blk_alloc ?_ _)); exact BK391.out) hb); have n1_ := Aside0.mk (below_step (by repeat (first | (with_reducible first | exact HB.out | apply below_alloc | apply pw_below_drewN | apply below_drew1 | refine below_set ?_ GE391.out) | exact HB.out)) hb); clear BK391; clear HB; have BK391 := n0_; have HB := n1_; clear n0_ n1_; (try clear hb); (try clear hb2); (try clear hk); (try clear hi); have hcz92_0 : w91.cell? ⟨gb391, 0, none⟩ = some (.string a0_0) := (blk_cell BK391.out 0).trans rfl; have hcz92_1 : w91.cell? ⟨gb391, 1, none⟩ = some (.slice A0_1 l0_1.length c0_1) := (blk_cell BK391.out 1).trans rfl; have hcz92_2 : w91.cell? ⟨gb391, 2, none⟩ = some (.slice A0_2 l0_2.length c0_2) := (blk_cell BK391.out 2).trans rfl; have hfz92_0 := blk_frozen BK391.out 0; have hfz92_1 := blk_frozen BK391.out 1; have hfz92_2 := blk_frozen BK391.out 2) | (go_at_call 10; (with_reducible refine (def_Print.calls k a0_0 _ _ l0_1 _ _ l0_2 t394 false _ (Tab.below hTab (by repeat (first | exact HB.out | apply below_alloc | apply pw_below_drewN | apply below_drew1 | (refine below_set ?_ (Aside0.out ?_) <;> (first | assumption | skip)))))  ?side1 ?side2 ?side3 ?side4 A5.out).mono ?_); (case side1 => repeat (first | exact (Kd.C_below HR0_1.out HB.out) | (with_reducible refine Kd.C_alloc ?_ _) | (with_reducible refine Kd.C_drewN ?_ _) | (with_reducible refine Kd.C_drew ?_))); (case side2 => exact HC0_1.out); (case side3 => repeat (first | exact (Kd.C_below HR0_2.out HB.out) | (with_reducible refine Kd.C_alloc ?_ _) | (with_reducible refine Kd.C_drewN ?_ _) | (with_reducible refine Kd.C_drew ?_))); (case side4 => exact HC0_2.out); rintro e w93 ⟨rfl, hb⟩; have n0_ := Aside0.mk (blk_below (g := gb391) (o := .cells #[.string a0_0, .slice A0_1 l0_1.length c0_1, .slice A0_2 l0_2.length c0_2] 25 (0, 0)) (by (with_reducible repeat (first | refine blk_drewN ?_ _ | refine blk_drew ?_ | refine blk_alloc ?_ _)); exact BK391.out) hb); have n1_ := Aside0.mk (below_step (by repeat (first | (with_reducible first | exact HB.out | apply below_alloc | apply pw_below_drewN | apply below_drew1 | refine below_set ?_ GE391.out) | exact HB.out)) hb); clear BK391; clear HB; have BK391 := n0_; have HB := n1_; clear n0_ n1_; (try clear hb); (try clear hb2); (try clear hk); (try clear hi)) | (go_at_call 9; (with_reducible refine (remontoirlaw17_wakes.calls k  t396 _ (Tab.below hTab (by repeat (first | exact HB.out | apply below_alloc | apply pw_below_drewN | apply below_drew1 | (refine below_set ?_ (Aside0.out ?_) <;> (first | assumption | skip)))))  A88.out).mono ?_); rintro e w94 ⟨rfl, hb⟩; have n0_ := Aside0.mk (blk_below (g := gb391) (o := .cells #[.string a0_0, .slice A0_1 l0_1.length c0_1, .slice A0_2 l0_2.length c0_2] 25 (0, 0)) (by (with_reducible repeat (first | refine blk_drewN ?_ _ | refine blk_drew ?_ | refine blk_alloc ?_ _)); exact BK391.out) hb); have n1_ := Aside0.mk (below_step (by repeat (first | (with_reducible first | exact HB.out | apply below_alloc | apply pw_below_drewN | apply below_drew1 | refine below_set ?_ GE391.out) | exact HB.out)) hb); clear BK391; clear HB; have BK391 := n0_; have HB := n1_; clear n0_ n1_; (try clear hb); (try clear hb2); (try clear hk); (try clear hi))))
   go_ret
   exact ⟨by first | rfl | (simp [errW_none, errW_some] <;> rfl) | (simp [*, errW_none, errW_some] <;> rfl), by repeat (first | (with_reducible first | exact HB.out | apply below_alloc | apply pw_below_drewN | apply below_drew1 | refine below_set ?_ GE391.out) | exact HB.out)⟩
 ·
  replace c4 := Bool.eq_false_iff.mpr c4
  subst c4
  have H1 : ((remontoirlaw17_wakes.f k).bind fun t393 => (some t393)) = some r := by rw [if_neg (show ¬ (false = true) by decide)] at H; exact H
  clear H
  have H := H1
  clear H1
  replace H := Option.bind_eq_some_iff.mp H
  obtain ⟨t393, A950, H⟩ := H
  replace H : (some t393) = some r := H
  have A95 := Aside0.mk A950
  clear A950
  obtain rfl := Option.some.inj H
  go_enter Tryd.func5, Tryd.ntmps5
  go_wp2_with (first | ((with_reducible refine gate_dst (N := 2) rfl ?_); (try (refine gate_guard (by rfl) ?_; dsimp only)); refine box_event ?hg (N := 2) ?hd (cs := #[.string a0_0, .slice A0_1 l0_1.length c0_1, .slice A0_2 l0_2.length c0_2]) (t := 25) ?hr ?_; (case hd => rfl); (case hg => rfl); (case hr => first | (go_simp; done) | (go_simp; rfl)); intro gb391 hg w96 hbox hb; have n0_ := Aside0.mk (below_step (by repeat (first | (with_reducible first | exact HB.out | apply below_alloc | apply pw_below_drewN | apply below_drew1) | exact HB.out)) hb); have n1_ := Aside0.mk (hbox); have n2_ := Aside0.mk ((by rw [hg]; exact (below_size (by repeat (first | (with_reducible first | exact HB.out | apply below_alloc | apply pw_below_drewN | apply below_drew1) | exact HB.out))) : w.heap.size ≤ gb391)); have n3_ := Aside0.mk ((by rw [hg]; exact (below_size (by repeat (first | (with_reducible first | exact HB.out | apply below_alloc | apply pw_below_drewN | apply below_drew1) | exact HB.out))) : w.heap.size ≤ gb391)); clear HB; have HB := n0_; have BK391 := n1_; have GW391 := n2_; have GE391 := n3_; clear n0_ n1_ n2_ n3_; clear hb hbox hg; have hcz97_0 : w96.cell? ⟨gb391, 0, none⟩ = some (.string a0_0) := (blk_cell BK391.out 0).trans rfl; have hcz97_1 : w96.cell? ⟨gb391, 1, none⟩ = some (.slice A0_1 l0_1.length c0_1) := (blk_cell BK391.out 1).trans rfl; have hcz97_2 : w96.cell? ⟨gb391, 2, none⟩ = some (.slice A0_2 l0_2.length c0_2) := (blk_cell BK391.out 2).trans rfl; have hfz97_0 := blk_frozen BK391.out 0; have hfz97_1 := blk_frozen BK391.out 1; have hfz97_2 := blk_frozen BK391.out 2) | (go_at_call 8; (with_reducible refine (remontoirkeep_LightDef.calls k a0_0 _ _ l0_1 _ _ l0_2 false _ ?side1 ?side2 ?side3 ?side4 A3.out).mono ?_); (case side1 => repeat (first | exact (Kd.C_below HR0_1.out HB.out) | (with_reducible refine Kd.C_alloc ?_ _) | (with_reducible refine Kd.C_drewN ?_ _) | (with_reducible refine Kd.C_drew ?_))); (case side2 => exact HC0_1.out); (case side3 => repeat (first | exact (Kd.C_below HR0_2.out HB.out) | (with_reducible refine Kd.C_alloc ?_ _) | (with_reducible refine Kd.C_drewN ?_ _) | (with_reducible refine Kd.C_drew ?_))); (case side4 => exact HC0_2.out); rintro e w98 ⟨rfl, hb⟩; have n0_ := Aside0.mk (blk_below (g := gb391) (o := .cells #[.string a0_0, .slice A0_1 l0_1.length c0_1, .slice A0_2 l0_2.length c0_2] 25 (0, 0)) (by (with_reducible repeat (first | refine blk_drewN ?_ _ | refine blk_drew ?_ | refine blk_alloc ?_ _)); exact BK391.out) hb); have n1_ := Aside0.mk (below_step (by repeat (first | (with_reducible first | exact HB.out | apply below_alloc | apply pw_below_drewN | apply below_drew1 | refine below_set ?_ GE391.out) | exact HB.out)) hb); clear BK391; clear HB; have BK391 := n0_; have HB := n1_; clear n0_ n1_; (try clear hb); (try clear hb2); (try clear hk); (try clear hi)) | (go_at_call 9; (with_reducible refine (remontoirlaw17_wakes.calls k  t393 _ (Tab.below hTab (by repeat (first | exact HB.out | apply below_alloc | apply pw_below_drewN | apply below_drew1 | (refine below_set ?_ (Aside0.out ?_) <;> (first | assumption | skip)))))  A95.out).mono ?_); rintro e w99 ⟨rfl, hb⟩; have n0_ := Aside0.mk (blk_below (g := gb391) (o := .cells #[.string a0_0, .slice A0_1 l0_1.length c0_1, .slice A0_2 l0_2.length c0_2] 25 (0, 0)) (by (with_reducible repeat (first | refine blk_drewN ?_ _ | refine blk_drew ?_ | refine blk_alloc ?_ _)); exact BK391.out) hb); have n1_ := Aside0.mk (below_step (by repeat (first | (with_reducible first | exact HB.out | apply below_alloc | apply pw_below_drewN | apply below_drew1 | refine below_set ?_ GE391.out) | exact HB.out)) hb); clear BK391; clear HB; have BK391 := n0_; have HB := n1_; clear n0_ n1_; (try clear hb); (try clear hb2); (try clear hk); (try clear hi)))
  repeat (go_quiet (first | ((with_reducible refine gate_dst (N := 2) rfl ?_); (try (refine gate_guard (by rfl) ?_; dsimp only)); refine box_event ?hg (N := 2) ?hd (cs := #[.string a0_0, .slice A0_1 l0_1.length c0_1, .slice A0_2 l0_2.length c0_2]) (t := 25) ?hr ?_; (case hd => rfl); (case hg => rfl); (case hr => first | (go_simp; done) | (go_simp; rfl)); intro gb391 hg w96 hbox hb; have n0_ := Aside0.mk (below_step (by repeat (first | (with_reducible first | exact HB.out | apply below_alloc | apply pw_below_drewN | apply below_drew1) | exact HB.out)) hb); have n1_ := Aside0.mk (hbox); have n2_ := Aside0.mk ((by rw [hg]; exact (below_size (by repeat (first | (with_reducible first | exact HB.out | apply below_alloc | apply pw_below_drewN | apply below_drew1) | exact HB.out))) : w.heap.size ≤ gb391)); have n3_ := Aside0.mk ((by rw [hg]; exact (below_size (by repeat (first | (with_reducible first | exact HB.out | apply below_alloc | apply pw_below_drewN | apply below_drew1) | exact HB.out))) : w.heap.size ≤ gb391)); clear HB; have HB := n0_; have BK391 := n1_; have GW391 := n2_; have GE391 := n3_; clear n0_ n1_ n2_ n3_; clear hb hbox hg; have hcz97_0 : w96.cell? ⟨gb391, 0, none⟩ = some (.string a0_0) := (blk_cell BK391.out 0).trans rfl; have hcz97_1 : w96.cell? ⟨gb391, 1, none⟩ = some (.slice A0_1 l0_1.length c0_1) := (blk_cell BK391.out 1).trans rfl; have hcz97_2 : w96.cell? ⟨gb391, 2, none⟩ = some (.slice A0_2 l0_2.length c0_2) := (blk_cell BK391.out 2).trans rfl; have hfz97_0 := blk_frozen BK391.out 0; have hfz97_1 := blk_frozen BK391.out 1; have hfz97_2 := blk_frozen BK391.out 2) | (go_at_call 8; (with_reducible refine (remontoirkeep_LightDef.calls k a0_0 _ _ l0_1 _ _ l0_2 false _ ?side1 ?side2 ?side3 ?side4 A3.out).mono ?_); (case side1 => repeat (first | exact (Kd.C_below HR0_1.out HB.out) | (with_reducible refine Kd.C_alloc ?_ _) | (with_reducible refine Kd.C_drewN ?_ _) | (with_reducible refine Kd.C_drew ?_))); (case side2 => exact HC0_1.out); (case side3 => repeat (first | exact (Kd.C_below HR0_2.out HB.out) | (with_reducible refine Kd.C_alloc ?_ _) | (with_reducible refine Kd.C_drewN ?_ _) | (with_reducible refine Kd.C_drew ?_))); (case side4 => exact HC0_2.out); rintro e w98 ⟨rfl, hb⟩; have n0_ := Aside0.mk (blk_below (g := gb391) (o := .cells #[.string a0_0, .slice A0_1 l0_1.length c0_1, .slice A0_2 l0_2.length c0_2] 25 (0, 0)) (by (with_reducible repeat (first | refine blk_drewN ?_ _ | refine blk_drew ?_ | refine blk_alloc ?_ _)); exact BK391.out) hb); have n1_ := Aside0.mk (below_step (by repeat (first | (with_reducible first | exact HB.out | apply below_alloc | apply pw_below_drewN | apply below_drew1 | refine below_set ?_ GE391.out) | exact HB.out)) hb); clear BK391; clear HB; have BK391 := n0_; have HB := n1_; clear n0_ n1_; (try clear hb); (try clear hb2); (try clear hk); (try clear hi)) | (go_at_call 9; (with_reducible refine (remontoirlaw17_wakes.calls k  t393 _ (Tab.below hTab (by repeat (first | exact HB.out | apply below_alloc | apply pw_below_drewN | apply below_drew1 | (refine below_set ?_ (Aside0.out ?_) <;> (first | assumption | skip)))))  A95.out).mono ?_); rintro e w99 ⟨rfl, hb⟩; have n0_ := Aside0.mk (blk_below (g := gb391) (o := .cells #[.string a0_0, .slice A0_1 l0_1.length c0_1, .slice A0_2 l0_2.length c0_2] 25 (0, 0)) (by (with_reducible repeat (first | refine blk_drewN ?_ _ | refine blk_drew ?_ | refine blk_alloc ?_ _)); exact BK391.out) hb); have n1_ := Aside0.mk (below_step (by repeat (first | (with_reducible first | exact HB.out | apply below_alloc | apply pw_below_drewN | apply below_drew1 | refine below_set ?_ GE391.out) | exact HB.out)) hb); clear BK391; clear HB; have BK391 := n0_; have HB := n1_; clear n0_ n1_; (try clear hb); (try clear hb2); (try clear hk); (try clear hi))); try go_wp2_with (first | ((with_reducible refine gate_dst (N := 2) rfl ?_); (try (refine gate_guard (by rfl) ?_; dsimp only)); refine box_event ?hg (N := 2) ?hd (cs := #[.string a0_0, .slice A0_1 l0_1.length c0_1, .slice A0_2 l0_2.length c0_2]) (t := 25) ?hr ?_; (case hd => rfl); (case hg => rfl); (case hr => first | (go_simp; done) | (go_simp; rfl)); intro gb391 hg w96 hbox hb; have n0_ := Aside0.mk (below_step (by repeat (first | (with_reducible first | exact HB.out | apply below_alloc | apply pw_below_drewN | apply below_drew1) | exact HB.out)) hb); have n1_ := Aside0.mk (hbox); have n2_ := Aside0.mk ((by rw [hg]; exact (below_size (by repeat (first | (with_reducible first | exact HB.out | apply below_alloc | apply pw_below_drewN | apply below_drew1) | exact HB.out))) : w.heap.size ≤ gb391)); have n3_ := Aside0.mk ((by rw [hg]; exact (below_size (by repeat (first | (with_reducible first | exact HB.out | apply below_alloc | apply pw_below_drewN | apply below_drew1) | exact HB.out))) : w.heap.size ≤ gb391)); clear HB; have HB := n0_; have BK391 := n1_; have GW391 := n2_; have GE391 := n3_; clear n0_ n1_ n2_ n3_; clear hb hbox hg; have hcz97_0 : w96.cell? ⟨gb391, 0, none⟩ = some (.string a0_0) := (blk_cell BK391.out 0).trans rfl; have hcz97_1 : w96.cell? ⟨gb391, 1, none⟩ = some (.slice A0_1 l0_1.length c0_1) := (blk_cell BK391.out 1).trans rfl; have hcz97_2 : w96.cell? ⟨gb391, 2, none⟩ = some (.slice A0_2 l0_2.length c0_2) := (blk_cell BK391.out 2).trans rfl; have hfz97_0 := blk_frozen BK391.out 0; have hfz97_1 := blk_frozen BK391.out 1; have hfz97_2 := blk_frozen BK391.out 2) | (go_at_call 8; (with_reducible refine (remontoirkeep_LightDef.calls k a0_0 _ _ l0_1 _ _ l0_2 false _ ?side1 ?side2 ?side3 ?side4 A3.out).mono ?_); (case side1 => repeat (first | exact (Kd.C_below HR0_1.out HB.out) | (with_reducible refine Kd.C_alloc ?_ _) | (with_reducible refine Kd.C_drewN ?_ _) | (with_reducible refine Kd.C_drew ?_))); (case side2 => exact HC0_1.out); (case side3 => repeat (first | exact (Kd.C_below HR0_2.out HB.out) | (with_reducible refine Kd.C_alloc ?_ _) | (with_reducible refine Kd.C_drewN ?_ _) | (with_reducible refine Kd.C_drew ?_))); (case side4 => exact HC0_2.out); rintro e w98 ⟨rfl, hb⟩; have n0_ := Aside0.mk (blk_below (g := gb391) (o := .cells #[.string a0_0, .slice A0_1 l0_1.length c0_1, .slice A0_2 l0_2.length c0_2] 25 (0, 0)) (by (with_reducible repeat (first | refine blk_drewN ?_ _ | refine blk_drew ?_ | refine blk_alloc ?_ _)); exact BK391.out) hb); have n1_ := Aside0.mk (below_step (by repeat (first | (with_reducible first | exact HB.out | apply below_alloc | apply pw_below_drewN | apply below_drew1 | refine below_set ?_ GE391.out) | exact HB.out)) hb); clear BK391; clear HB; have BK391 := n0_; have HB := n1_; clear n0_ n1_; (try clear hb); (try clear hb2); (try clear hk); (try clear hi)) | (go_at_call 9; (with_reducible refine (remontoirlaw17_wakes.calls k  t393 _ (Tab.below hTab (by repeat (first | exact HB.out | apply below_alloc | apply pw_below_drewN | apply below_drew1 | (refine below_set ?_ (Aside0.out ?_) <;> (first | assumption | skip)))))  A95.out).mono ?_); rintro e w99 ⟨rfl, hb⟩; have n0_ := Aside0.mk (blk_below (g := gb391) (o := .cells #[.string a0_0, .slice A0_1 l0_1.length c0_1, .slice A0_2 l0_2.length c0_2] 25 (0, 0)) (by (with_reducible repeat (first | refine blk_drewN ?_ _ | refine blk_drew ?_ | refine blk_alloc ?_ _)); exact BK391.out) hb); have n1_ := Aside0.mk (below_step (by repeat (first | (with_reducible first | exact HB.out | apply below_alloc | apply pw_below_drewN | apply below_drew1 | refine below_set ?_ GE391.out) | exact HB.out)) hb); clear BK391; clear HB; have BK391 := n0_; have HB := n1_; clear n0_ n1_; (try clear hb); (try clear hb2); (try clear hk); (try clear hi))))
  go_ret
  exact ⟨by first | rfl | (simp [errW_none, errW_some] <;> rfl) | (simp [*, errW_none, errW_some] <;> rfl), by repeat (first | (with_reducible first | exact HB.out | apply below_alloc | apply pw_below_drewN | apply below_drew1 | refine below_set ?_ GE391.out) | exact HB.out)⟩

end Go.Proofs.YtpalncojmknlbaaDoor.Y
