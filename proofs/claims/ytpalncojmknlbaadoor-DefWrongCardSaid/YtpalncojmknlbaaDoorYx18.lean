/- What Go functions compute, as plain Lean functions, and that the machine comes to just that: written by wip/tools/printx.py (my run of the printer, with contracts of mine beside it). -/
import Derived.Test.YtpalncojmknlbaaDoorDefNode
import Derived.Test.YtpalncojmknlbaaDoorDefWrite
import Derived.Test.YtpalncojmknlbaaDoorAx2
import Derived.Test.YtpalncojmknlbaaDoorYx0
import Derived.Test.YtpalncojmknlbaaDoorYx3
import Derived.Test.YtpalncojmknlbaaDoorYx4
import Derived.Test.YtpalncojmknlbaaDoorYx5
namespace Go.Proofs.YtpalncojmknlbaaDoor.Y
open Go.Proofs.YtpalncojmknlbaaDoor.Ext Go.Proofs.YtpalncojmknlbaaDoor.A Go.RowKit Go.Proofs.YtpalncojmknlbaaDoorW.PrintWords Go.Proofs.YtpalncojmknlbaaDoorW.PrintLast Go.Proofs.YtpalncojmknlbaaDoorW.PrintMore
attribute [local go_sem] max2_int min2_int max_two min_two max_three min_three max_four min_four   -- for this text's walks alone
set_option linter.unusedVariables false
set_option linter.unusedSimpArgs false

/-! ### remontoirlaw17_DefWrong: function 6 -/
mutual
def remontoirlaw17_DefWrong.j0 : Nat → Int → Int → ByteArray → Bool → ByteArray → List (S40) → List (S42) → Option (Bool)
 | 0, _, _, _, _, _, _, _ => none
 | k + 1, x1, x2, x7, x33, x428000, x428001, x428002 => if x33 = true then ((remontoirlaw17_wakes.f k).bind fun t432 => (some t432)) else ((words_Lines.f k x7).bind fun bt433 => (if bt433.2 = 0 then (remontoirlaw17_DefWrong.j1 k x1 x2 x7 bt433.1 ((bt433.1.length : Int) == 0) x428000 x428001 x428002) else (remontoirlaw17_DefWrong.j1 k x1 x2 x7 bt433.1 true x428000 x428001 x428002)))
def remontoirlaw17_DefWrong.j1 : Nat → Int → Int → ByteArray → List ByteArray → Bool → ByteArray → List (S40) → List (S42) → Option (Bool)
 | 0, _, _, _, _, _, _, _, _ => none
 | k + 1, x1, x2, x7, x9, x46, x428000, x428001, x428002 => if x46 = true then (some false) else (if (wrap64 ((x9.length : Int) + 1)) = 0 then (none) else (remontoirlaw17_DefWrong.l0 k x2 x7 x9 (([(⟨#[]⟩ : ByteArray), (⟨#[115, 116, 97, 114, 116]⟩ : ByteArray), (⟨#[115, 116, 97, 114, 116, 32, 120]⟩ : ByteArray), (⟨#[115, 116, 97, 114, 116, 32, 48, 32, 48]⟩ : ByteArray), (⟨#[116, 97, 115, 107, 32, 48]⟩ : ByteArray), (⟨#[116, 97, 115, 107, 32, 48, 32, 48, 49]⟩ : ByteArray), (⟨#[99, 97, 116, 99, 104, 32, 48]⟩ : ByteArray), (⟨#[115, 116, 111, 112, 32, 48, 32, 49]⟩ : ByteArray), (⟨#[115, 105, 100, 101, 32, 48, 32, 49, 32, 80, 84, 49, 83, 32, 120]⟩ : ByteArray), (⟨#[102, 108, 111, 119, 32, 49]⟩ : ByteArray), (⟨#[102, 108, 111, 119, 32, 49, 32, 120]⟩ : ByteArray), (⟨#[102, 108, 111, 119, 32, 49, 32, 50, 32, 105, 102]⟩ : ByteArray), (⟨#[102, 108, 111, 119, 32, 49, 32, 50, 32, 97, 103, 97, 105, 110, 32, 51]⟩ : ByteArray), (⟨#[102, 108, 111, 119, 32, 49, 32, 50, 32, 97, 103, 97, 105, 110, 32, 51, 32, 105, 102]⟩ : ByteArray), (⟨#[102, 108, 111, 119, 32, 49, 32, 50, 32, 68, 101, 102, 97, 117, 108, 116]⟩ : ByteArray), (⟨#[83, 116, 97, 114, 116, 32, 48]⟩ : ByteArray), (⟨#[115, 116, 97, 114, 116, 32, 32, 48]⟩ : ByteArray), (⟨#[32, 115, 116, 97, 114, 116, 32, 48]⟩ : ByteArray), (⟨#[115, 116, 97, 114, 116, 32, 48, 32]⟩ : ByteArray), (⟨#[112, 114, 111, 99, 101, 115, 115, 32, 98]⟩ : ByteArray), (⟨#[101, 110, 100, 32, 49, 48, 48, 48]⟩ : ByteArray)] : List ByteArray)) (Int.tmod (wrap64 (x1)) (wrap64 ((x9.length : Int) + 1))) (⟨#[]⟩ : ByteArray) 0 x428000 x428001 x428002))
def remontoirlaw17_DefWrong.l0 : Nat → Int → ByteArray → List ByteArray → List ByteArray → Int → ByteArray → Int → ByteArray → List (S40) → List (S42) → Option (Bool)
 | 0, _, _, _, _, _, _, _, _, _, _ => none
 | k + 1, x2, x7, x9, x11, x12, x13, x14, x428000, x428001, x428002 => if x14 ≤ (x9.length : Int) then (if x14 = x12 then (if (x11.length : Int) = 0 then (none) else (if 0 ≤ (Int.tmod (wrap64 (x2)) (x11.length : Int)) then (if (Int.tmod (wrap64 (x2)) (x11.length : Int)) < (x11.length : Int) then (if (rdOf ByteArray.empty x11 (Int.tmod (wrap64 (x2)) (x11.length : Int))).size + 1 ≤ 9223372036854775807 then (if x13.size + ((rdOf ByteArray.empty x11 (Int.tmod (wrap64 (x2)) (x11.length : Int))) ++ (⟨#[10]⟩ : ByteArray)).size ≤ 9223372036854775807 then (if x14 < (x9.length : Int) then (if 0 ≤ x14 then (if (rdOf ByteArray.empty x9 x14).size + 1 ≤ 9223372036854775807 then (if (x13 ++ ((rdOf ByteArray.empty x11 (Int.tmod (wrap64 (x2)) (x11.length : Int))) ++ (⟨#[10]⟩ : ByteArray))).size + ((rdOf ByteArray.empty x9 x14) ++ (⟨#[10]⟩ : ByteArray)).size ≤ 9223372036854775807 then (remontoirlaw17_DefWrong.l0 k x2 x7 x9 x11 x12 ((x13 ++ ((rdOf ByteArray.empty x11 (Int.tmod (wrap64 (x2)) (x11.length : Int))) ++ (⟨#[10]⟩ : ByteArray))) ++ ((rdOf ByteArray.empty x9 x14) ++ (⟨#[10]⟩ : ByteArray))) (wrap64 (x14 + 1)) x428000 x428001 x428002) else (none)) else (none)) else (none)) else (remontoirlaw17_DefWrong.l0 k x2 x7 x9 x11 x12 (x13 ++ ((rdOf ByteArray.empty x11 (Int.tmod (wrap64 (x2)) (x11.length : Int))) ++ (⟨#[10]⟩ : ByteArray))) (wrap64 (x14 + 1)) x428000 x428001 x428002)) else (none)) else (none)) else (none)) else (none))) else (if x14 < (x9.length : Int) then (if 0 ≤ x14 then (if (rdOf ByteArray.empty x9 x14).size + 1 ≤ 9223372036854775807 then (if x13.size + ((rdOf ByteArray.empty x9 x14) ++ (⟨#[10]⟩ : ByteArray)).size ≤ 9223372036854775807 then (remontoirlaw17_DefWrong.l0 k x2 x7 x9 x11 x12 (x13 ++ ((rdOf ByteArray.empty x9 x14) ++ (⟨#[10]⟩ : ByteArray))) (wrap64 (x14 + 1)) x428000 x428001 x428002) else (none)) else (none)) else (none)) else (remontoirlaw17_DefWrong.l0 k x2 x7 x9 x11 x12 x13 (wrap64 (x14 + 1)) x428000 x428001 x428002))) else ((def_Parse.f k x13).bind fun bt443 => (if x12 = 0 then (if (x11.length : Int) = 0 then (none) else (if 0 ≤ (Int.tmod (wrap64 (x2)) (x11.length : Int)) then (if (Int.tmod (wrap64 (x2)) (x11.length : Int)) < (x11.length : Int) then (remontoirlaw17_DefWrong.j3 k x7 x9 x12 bt443.2.2.2.1 bt443.2.2.2.2 ((rdOf ByteArray.empty x11 (Int.tmod (wrap64 (x2)) (x11.length : Int))).toList == ([112, 114, 111, 99, 101, 115, 115, 32, 98] : List UInt8)) x428000 x428001 x428002 bt443.1 bt443.2.1 bt443.2.2.1) else (none)) else (none))) else (remontoirlaw17_DefWrong.j3 k x7 x9 x12 bt443.2.2.2.1 bt443.2.2.2.2 false x428000 x428001 x428002 bt443.1 bt443.2.1 bt443.2.2.1)))
def remontoirlaw17_DefWrong.j3 : Nat → ByteArray → List ByteArray → Int → Int → Int → Bool → ByteArray → List (S40) → List (S42) → ByteArray → List (S40) → List (S42) → Option (Bool)
 | 0, _, _, _, _, _, _, _, _, _, _, _, _ => none
 | k + 1, x7, x9, x12, x16, x17, x103, x428000, x428001, x428002, x453000, x453001, x453002 => if x103 = true then (if x16 = 2 then (if x17 = 2 then ((remontoirlaw17_wakes.f k).bind fun t454 => (some t454)) else (some false)) else (some false)) else (if x16 = (wrap64 (x12 + 1)) then (if x17 = 2 then (if (x453001.length : Int) = 0 then (if (x453002.length : Int) = 0 then (remontoirlaw17_DefWrong.j4 k x7 x9 (x453000.toList != ([] : List UInt8)) x428000 x428001 x428002) else (remontoirlaw17_DefWrong.j4 k x7 x9 true x428000 x428001 x428002)) else (remontoirlaw17_DefWrong.j4 k x7 x9 true x428000 x428001 x428002)) else (remontoirlaw17_DefWrong.j4 k x7 x9 true x428000 x428001 x428002)) else (remontoirlaw17_DefWrong.j4 k x7 x9 true x428000 x428001 x428002))
def remontoirlaw17_DefWrong.j4 : Nat → ByteArray → List ByteArray → Bool → ByteArray → List (S40) → List (S42) → Option (Bool)
 | 0, _, _, _, _, _, _ => none
 | k + 1, x7, x9, x137, x428000, x428001, x428002 => if x137 = true then (some false) else (if (x428002.length : Int) > 0 then (remontoirlaw17_DefWrong.j5 k x7 x9 (decide ((x428001.length : Int) < 60))) else (remontoirlaw17_DefWrong.j5 k x7 x9 false))
def remontoirlaw17_DefWrong.j5 : Nat → ByteArray → List ByteArray → Bool → Option (Bool)
 | 0, _, _, _ => none
 | k + 1, x7, x9, x147 => if x147 = true then (if x7.size + 6 ≤ 9223372036854775807 then ((def_Parse.f k (x7 ++ (⟨#[101, 110, 100, 32, 48, 10]⟩ : ByteArray))).bind fun bt455 => (if bt455.2.2.2.1 = (wrap64 ((x9.length : Int) + 1)) then (if bt455.2.2.2.2 = 2 then ((remontoirlaw17_wakes.f k).bind fun t464 => (some t464)) else (some false)) else (some false))) else (none)) else ((remontoirlaw17_wakes.f k).bind fun t465 => (some t465))
end
def remontoirlaw17_DefWrong.f (k : Nat) (a0_0 : ByteArray) (l0_1 : List (S40)) (l0_2 : List (S42)) (a1 : Int) (a2 : Int) : Option (Bool) := (remontoirkeep_LightDef.f k a0_0 l0_1 l0_2).bind fun t428 => (if t428 = true then ((def_Print.f k a0_0 l0_1 l0_2).bind fun bt430 => (if bt430.2 = true then (remontoirlaw17_DefWrong.j0 k a1 a2 bt430.1 (decide ((bt430.1.size : Int) > 5940)) a0_0 l0_1 l0_2) else (remontoirlaw17_DefWrong.j0 k a1 a2 bt430.1 true a0_0 l0_1 l0_2))) else ((remontoirlaw17_wakes.f k).bind fun t429 => (some t429)))
theorem remontoirlaw17_DefWrong.mono_l : ∀ k, (∀ y0 y1 y2 y3 y4 y5 y6, LeO (remontoirlaw17_DefWrong.j0 k y0 y1 y2 y3 y4 y5 y6) (remontoirlaw17_DefWrong.j0 (k + 1) y0 y1 y2 y3 y4 y5 y6)) ∧ (∀ y0 y1 y2 y3 y4 y5 y6 y7, LeO (remontoirlaw17_DefWrong.j1 k y0 y1 y2 y3 y4 y5 y6 y7) (remontoirlaw17_DefWrong.j1 (k + 1) y0 y1 y2 y3 y4 y5 y6 y7)) ∧ (∀ y0 y1 y2 y3 y4 y5 y6 y7 y8 y9, LeO (remontoirlaw17_DefWrong.l0 k y0 y1 y2 y3 y4 y5 y6 y7 y8 y9) (remontoirlaw17_DefWrong.l0 (k + 1) y0 y1 y2 y3 y4 y5 y6 y7 y8 y9)) ∧ (∀ y0 y1 y2 y3 y4 y5 y6 y7 y8 y9 y10 y11, LeO (remontoirlaw17_DefWrong.j3 k y0 y1 y2 y3 y4 y5 y6 y7 y8 y9 y10 y11) (remontoirlaw17_DefWrong.j3 (k + 1) y0 y1 y2 y3 y4 y5 y6 y7 y8 y9 y10 y11)) ∧ (∀ y0 y1 y2 y3 y4 y5, LeO (remontoirlaw17_DefWrong.j4 k y0 y1 y2 y3 y4 y5) (remontoirlaw17_DefWrong.j4 (k + 1) y0 y1 y2 y3 y4 y5)) ∧ (∀ y0 y1 y2, LeO (remontoirlaw17_DefWrong.j5 k y0 y1 y2) (remontoirlaw17_DefWrong.j5 (k + 1) y0 y1 y2))
 | 0 => ⟨fun _ _ _ _ _ _ _ r h => by simp [remontoirlaw17_DefWrong.j0] at h, fun _ _ _ _ _ _ _ _ r h => by simp [remontoirlaw17_DefWrong.j1] at h, fun _ _ _ _ _ _ _ _ _ _ r h => by simp [remontoirlaw17_DefWrong.l0] at h, fun _ _ _ _ _ _ _ _ _ _ _ _ r h => by simp [remontoirlaw17_DefWrong.j3] at h, fun _ _ _ _ _ _ r h => by simp [remontoirlaw17_DefWrong.j4] at h, fun _ _ _ r h => by simp [remontoirlaw17_DefWrong.j5] at h⟩
 | k + 1 => by
  obtain ⟨ih0, ih1, ih2, ih3, ih4, ih5⟩ := remontoirlaw17_DefWrong.mono_l k
  refine ⟨?_, ?_, ?_, ?_, ?_, ?_⟩
  ·
   intro y0 y1 y2 y3 y4 y5 y6
   unfold remontoirlaw17_DefWrong.j0
   repeat' first
   | (with_reducible exact ih0 _ _ _ _ _ _ _)
   | (with_reducible exact ih1 _ _ _ _ _ _ _ _)
   | (with_reducible exact ih2 _ _ _ _ _ _ _ _ _ _)
   | (with_reducible exact ih3 _ _ _ _ _ _ _ _ _ _ _ _)
   | (with_reducible exact ih4 _ _ _ _ _ _)
   | (with_reducible exact ih5 _ _ _)
   | (with_reducible exact def_Parse.mono _ _)
   | (with_reducible exact def_Print.mono _ _ _ _)
   | (with_reducible exact remontoirkeep_LightDef.mono _ _ _ _)
   | (with_reducible exact remontoirlaw17_wakes.mono _)
   | (with_reducible exact words_Lines.mono _ _)
   | (with_reducible exact LeO.refl _)
   | (with_reducible exact LeO.none _)
   | (with_reducible refine LeO.ite ?_ ?_)
   | (with_reducible refine LeO.bind ?_ (fun _ => ?_))
   | exact ih0 _ _ _ _ _ _ _
   | exact ih1 _ _ _ _ _ _ _ _
   | exact ih2 _ _ _ _ _ _ _ _ _ _
   | exact ih3 _ _ _ _ _ _ _ _ _ _ _ _
   | exact ih4 _ _ _ _ _ _
   | exact ih5 _ _ _
   | exact def_Parse.mono _ _
   | exact def_Print.mono _ _ _ _
   | exact remontoirkeep_LightDef.mono _ _ _ _
   | exact remontoirlaw17_wakes.mono _
   | exact words_Lines.mono _ _
   | exact LeO.none _
   | refine LeO.ite ?_ ?_
   | refine LeO.bind ?_ (fun _ => ?_)
  ·
   intro y0 y1 y2 y3 y4 y5 y6 y7
   unfold remontoirlaw17_DefWrong.j1
   repeat' first
   | (with_reducible exact ih0 _ _ _ _ _ _ _)
   | (with_reducible exact ih1 _ _ _ _ _ _ _ _)
   | (with_reducible exact ih2 _ _ _ _ _ _ _ _ _ _)
   | (with_reducible exact ih3 _ _ _ _ _ _ _ _ _ _ _ _)
   | (with_reducible exact ih4 _ _ _ _ _ _)
   | (with_reducible exact ih5 _ _ _)
   | (with_reducible exact def_Parse.mono _ _)
   | (with_reducible exact def_Print.mono _ _ _ _)
   | (with_reducible exact remontoirkeep_LightDef.mono _ _ _ _)
   | (with_reducible exact remontoirlaw17_wakes.mono _)
   | (with_reducible exact words_Lines.mono _ _)
   | (with_reducible exact LeO.refl _)
   | (with_reducible exact LeO.none _)
   | (with_reducible refine LeO.ite ?_ ?_)
   | (with_reducible refine LeO.bind ?_ (fun _ => ?_))
   | exact ih0 _ _ _ _ _ _ _
   | exact ih1 _ _ _ _ _ _ _ _
   | exact ih2 _ _ _ _ _ _ _ _ _ _
   | exact ih3 _ _ _ _ _ _ _ _ _ _ _ _
   | exact ih4 _ _ _ _ _ _
   | exact ih5 _ _ _
   | exact def_Parse.mono _ _
   | exact def_Print.mono _ _ _ _
   | exact remontoirkeep_LightDef.mono _ _ _ _
   | exact remontoirlaw17_wakes.mono _
   | exact words_Lines.mono _ _
   | exact LeO.none _
   | refine LeO.ite ?_ ?_
   | refine LeO.bind ?_ (fun _ => ?_)
  ·
   intro y0 y1 y2 y3 y4 y5 y6 y7 y8 y9
   unfold remontoirlaw17_DefWrong.l0
   repeat' first
   | (with_reducible exact ih0 _ _ _ _ _ _ _)
   | (with_reducible exact ih1 _ _ _ _ _ _ _ _)
   | (with_reducible exact ih2 _ _ _ _ _ _ _ _ _ _)
   | (with_reducible exact ih3 _ _ _ _ _ _ _ _ _ _ _ _)
   | (with_reducible exact ih4 _ _ _ _ _ _)
   | (with_reducible exact ih5 _ _ _)
   | (with_reducible exact def_Parse.mono _ _)
   | (with_reducible exact def_Print.mono _ _ _ _)
   | (with_reducible exact remontoirkeep_LightDef.mono _ _ _ _)
   | (with_reducible exact remontoirlaw17_wakes.mono _)
   | (with_reducible exact words_Lines.mono _ _)
   | (with_reducible exact LeO.refl _)
   | (with_reducible exact LeO.none _)
   | (with_reducible refine LeO.ite ?_ ?_)
   | (with_reducible refine LeO.bind ?_ (fun _ => ?_))
   | exact ih0 _ _ _ _ _ _ _
   | exact ih1 _ _ _ _ _ _ _ _
   | exact ih2 _ _ _ _ _ _ _ _ _ _
   | exact ih3 _ _ _ _ _ _ _ _ _ _ _ _
   | exact ih4 _ _ _ _ _ _
   | exact ih5 _ _ _
   | exact def_Parse.mono _ _
   | exact def_Print.mono _ _ _ _
   | exact remontoirkeep_LightDef.mono _ _ _ _
   | exact remontoirlaw17_wakes.mono _
   | exact words_Lines.mono _ _
   | exact LeO.none _
   | refine LeO.ite ?_ ?_
   | refine LeO.bind ?_ (fun _ => ?_)
  ·
   intro y0 y1 y2 y3 y4 y5 y6 y7 y8 y9 y10 y11
   unfold remontoirlaw17_DefWrong.j3
   repeat' first
   | (with_reducible exact ih0 _ _ _ _ _ _ _)
   | (with_reducible exact ih1 _ _ _ _ _ _ _ _)
   | (with_reducible exact ih2 _ _ _ _ _ _ _ _ _ _)
   | (with_reducible exact ih3 _ _ _ _ _ _ _ _ _ _ _ _)
   | (with_reducible exact ih4 _ _ _ _ _ _)
   | (with_reducible exact ih5 _ _ _)
   | (with_reducible exact def_Parse.mono _ _)
   | (with_reducible exact def_Print.mono _ _ _ _)
   | (with_reducible exact remontoirkeep_LightDef.mono _ _ _ _)
   | (with_reducible exact remontoirlaw17_wakes.mono _)
   | (with_reducible exact words_Lines.mono _ _)
   | (with_reducible exact LeO.refl _)
   | (with_reducible exact LeO.none _)
   | (with_reducible refine LeO.ite ?_ ?_)
   | (with_reducible refine LeO.bind ?_ (fun _ => ?_))
   | exact ih0 _ _ _ _ _ _ _
   | exact ih1 _ _ _ _ _ _ _ _
   | exact ih2 _ _ _ _ _ _ _ _ _ _
   | exact ih3 _ _ _ _ _ _ _ _ _ _ _ _
   | exact ih4 _ _ _ _ _ _
   | exact ih5 _ _ _
   | exact def_Parse.mono _ _
   | exact def_Print.mono _ _ _ _
   | exact remontoirkeep_LightDef.mono _ _ _ _
   | exact remontoirlaw17_wakes.mono _
   | exact words_Lines.mono _ _
   | exact LeO.none _
   | refine LeO.ite ?_ ?_
   | refine LeO.bind ?_ (fun _ => ?_)
  ·
   intro y0 y1 y2 y3 y4 y5
   unfold remontoirlaw17_DefWrong.j4
   repeat' first
   | (with_reducible exact ih0 _ _ _ _ _ _ _)
   | (with_reducible exact ih1 _ _ _ _ _ _ _ _)
   | (with_reducible exact ih2 _ _ _ _ _ _ _ _ _ _)
   | (with_reducible exact ih3 _ _ _ _ _ _ _ _ _ _ _ _)
   | (with_reducible exact ih4 _ _ _ _ _ _)
   | (with_reducible exact ih5 _ _ _)
   | (with_reducible exact def_Parse.mono _ _)
   | (with_reducible exact def_Print.mono _ _ _ _)
   | (with_reducible exact remontoirkeep_LightDef.mono _ _ _ _)
   | (with_reducible exact remontoirlaw17_wakes.mono _)
   | (with_reducible exact words_Lines.mono _ _)
   | (with_reducible exact LeO.refl _)
   | (with_reducible exact LeO.none _)
   | (with_reducible refine LeO.ite ?_ ?_)
   | (with_reducible refine LeO.bind ?_ (fun _ => ?_))
   | exact ih0 _ _ _ _ _ _ _
   | exact ih1 _ _ _ _ _ _ _ _
   | exact ih2 _ _ _ _ _ _ _ _ _ _
   | exact ih3 _ _ _ _ _ _ _ _ _ _ _ _
   | exact ih4 _ _ _ _ _ _
   | exact ih5 _ _ _
   | exact def_Parse.mono _ _
   | exact def_Print.mono _ _ _ _
   | exact remontoirkeep_LightDef.mono _ _ _ _
   | exact remontoirlaw17_wakes.mono _
   | exact words_Lines.mono _ _
   | exact LeO.none _
   | refine LeO.ite ?_ ?_
   | refine LeO.bind ?_ (fun _ => ?_)
  ·
   intro y0 y1 y2
   unfold remontoirlaw17_DefWrong.j5
   repeat' first
   | (with_reducible exact ih0 _ _ _ _ _ _ _)
   | (with_reducible exact ih1 _ _ _ _ _ _ _ _)
   | (with_reducible exact ih2 _ _ _ _ _ _ _ _ _ _)
   | (with_reducible exact ih3 _ _ _ _ _ _ _ _ _ _ _ _)
   | (with_reducible exact ih4 _ _ _ _ _ _)
   | (with_reducible exact ih5 _ _ _)
   | (with_reducible exact def_Parse.mono _ _)
   | (with_reducible exact def_Print.mono _ _ _ _)
   | (with_reducible exact remontoirkeep_LightDef.mono _ _ _ _)
   | (with_reducible exact remontoirlaw17_wakes.mono _)
   | (with_reducible exact words_Lines.mono _ _)
   | (with_reducible exact LeO.refl _)
   | (with_reducible exact LeO.none _)
   | (with_reducible refine LeO.ite ?_ ?_)
   | (with_reducible refine LeO.bind ?_ (fun _ => ?_))
   | exact ih0 _ _ _ _ _ _ _
   | exact ih1 _ _ _ _ _ _ _ _
   | exact ih2 _ _ _ _ _ _ _ _ _ _
   | exact ih3 _ _ _ _ _ _ _ _ _ _ _ _
   | exact ih4 _ _ _ _ _ _
   | exact ih5 _ _ _
   | exact def_Parse.mono _ _
   | exact def_Print.mono _ _ _ _
   | exact remontoirkeep_LightDef.mono _ _ _ _
   | exact remontoirlaw17_wakes.mono _
   | exact words_Lines.mono _ _
   | exact LeO.none _
   | refine LeO.ite ?_ ?_
   | refine LeO.bind ?_ (fun _ => ?_)
theorem remontoirlaw17_DefWrong.mono : ∀ a0 a1 a2 a3 a4 k, LeO (remontoirlaw17_DefWrong.f k a0 a1 a2 a3 a4) (remontoirlaw17_DefWrong.f (k + 1) a0 a1 a2 a3 a4) := by
 intro a0 a1 a2 a3 a4 k
 obtain ⟨ih0, ih1, ih2, ih3, ih4, ih5⟩ := remontoirlaw17_DefWrong.mono_l k
 unfold remontoirlaw17_DefWrong.f
 repeat' first
   | (with_reducible exact ih0 _ _ _ _ _ _ _)
   | (with_reducible exact ih1 _ _ _ _ _ _ _ _)
   | (with_reducible exact ih2 _ _ _ _ _ _ _ _ _ _)
   | (with_reducible exact ih3 _ _ _ _ _ _ _ _ _ _ _ _)
   | (with_reducible exact ih4 _ _ _ _ _ _)
   | (with_reducible exact ih5 _ _ _)
   | (with_reducible exact def_Parse.mono _ _)
   | (with_reducible exact def_Print.mono _ _ _ _)
   | (with_reducible exact remontoirkeep_LightDef.mono _ _ _ _)
   | (with_reducible exact remontoirlaw17_wakes.mono _)
   | (with_reducible exact words_Lines.mono _ _)
   | (with_reducible exact LeO.refl _)
   | (with_reducible exact LeO.none _)
   | (with_reducible refine LeO.ite ?_ ?_)
   | (with_reducible refine LeO.bind ?_ (fun _ => ?_))
   | exact ih0 _ _ _ _ _ _ _
   | exact ih1 _ _ _ _ _ _ _ _
   | exact ih2 _ _ _ _ _ _ _ _ _ _
   | exact ih3 _ _ _ _ _ _ _ _ _ _ _ _
   | exact ih4 _ _ _ _ _ _
   | exact ih5 _ _ _
   | exact def_Parse.mono _ _
   | exact def_Print.mono _ _ _ _
   | exact remontoirkeep_LightDef.mono _ _ _ _
   | exact remontoirlaw17_wakes.mono _
   | exact words_Lines.mono _ _
   | exact LeO.none _
   | refine LeO.ite ?_ ?_
   | refine LeO.bind ?_ (fun _ => ?_)
set_option maxHeartbeats 8000000 in
set_option maxRecDepth 100000 in
theorem remontoirlaw17_DefWrong.calls (k : Nat) (a0_0 : ByteArray) (A0_1 : Option Addr) (c0_1 : Nat) (l0_1 : List (S40)) (A0_2 : Option Addr) (c0_2 : Nat) (l0_2 : List (S42)) (a1 : Int) (a2 : Int) (r : Bool) (w : World) (hTab : Tab w) (hr0_1 : Kd.C k40 w A0_1 l0_1.length l0_1) (hc0_1 : l0_1.length ≤ c0_1) (hr0_2 : Kd.C k42 w A0_2 l0_2.length l0_2) (hc0_2 : l0_2.length ≤ c0_2) (hr_ : r = true) (h : remontoirlaw17_DefWrong.f k a0_0 l0_1 l0_2 a1 a2 = some r) :
  Calls Tryd.prog 6 #[.agg #[.string a0_0, .slice A0_1 l0_1.length c0_1, .slice A0_2 l0_2.length c0_2], .int .u8 a1, .int .u8 a2] w fun e w' => e = .returned (.bool r) ∧ Below w.heap.size w w' := by
 have hu25 := Tryd.underlying25
 have HR0_1 := Aside0.mk hr0_1
 have HC0_1 := Aside0.mk hc0_1
 clear hr0_1 hc0_1
 have HR0_2 := Aside0.mk hr0_2
 have HC0_2 := Aside0.mk hc0_2
 clear hr0_2 hc0_2
 have HB := Aside0.mk (Below.refl w.heap.size w)
 have H : ((remontoirkeep_LightDef.f k a0_0 l0_1 l0_2).bind fun t428 => (if t428 = true then ((def_Print.f k a0_0 l0_1 l0_2).bind fun bt430 => (if bt430.2 = true then (remontoirlaw17_DefWrong.j0 k a1 a2 bt430.1 (decide ((bt430.1.size : Int) > 5940)) a0_0 l0_1 l0_2) else (remontoirlaw17_DefWrong.j0 k a1 a2 bt430.1 true a0_0 l0_1 l0_2))) else ((remontoirlaw17_wakes.f k).bind fun t429 => (some t429)))) = some r := h
 clear h
 replace H := Option.bind_eq_some_iff.mp H
 obtain ⟨t428, A40, H⟩ := H
 replace H : (if t428 = true then ((def_Print.f k a0_0 l0_1 l0_2).bind fun bt430 => (if bt430.2 = true then (remontoirlaw17_DefWrong.j0 k a1 a2 bt430.1 (decide ((bt430.1.size : Int) > 5940)) a0_0 l0_1 l0_2) else (remontoirlaw17_DefWrong.j0 k a1 a2 bt430.1 true a0_0 l0_1 l0_2))) else ((remontoirlaw17_wakes.f k).bind fun t429 => (some t429))) = some r := H
 have A4 := Aside0.mk A40
 clear A40
 by_cases c5 : t428 = true
 ·
  subst c5
  have H1 : ((def_Print.f k a0_0 l0_1 l0_2).bind fun bt430 => (if bt430.2 = true then (remontoirlaw17_DefWrong.j0 k a1 a2 bt430.1 (decide ((bt430.1.size : Int) > 5940)) a0_0 l0_1 l0_2) else (remontoirlaw17_DefWrong.j0 k a1 a2 bt430.1 true a0_0 l0_1 l0_2))) = some r := by rw [if_pos rfl] at H; exact H
  clear H
  have H := H1
  clear H1
  replace H := Option.bind_eq_some_iff.mp H
  obtain ⟨⟨t430, t431⟩, A60, H⟩ := H
  replace H : (if t431 = true then (remontoirlaw17_DefWrong.j0 k a1 a2 t430 (decide ((t430.size : Int) > 5940)) a0_0 l0_1 l0_2) else (remontoirlaw17_DefWrong.j0 k a1 a2 t430 true a0_0 l0_1 l0_2)) = some r := H
  have A6 := Aside0.mk A60
  clear A60
  have HC7 := Aside0.mk H
  clear H
  go_enter Tryd.func6, Tryd.ntmps6
  go_upto_region 4 with (first | ((with_reducible refine gate_dst (N := 3) rfl ?_); (try (refine gate_guard (by rfl) ?_; dsimp only)); refine box_event ?hg (N := 3) ?hd (cs := #[.string a0_0, .slice A0_1 l0_1.length c0_1, .slice A0_2 l0_2.length c0_2]) (t := 25) ?hr ?_; (case hd => rfl); (case hg => rfl); (case hr => first | (go_simp; done) | (go_simp; rfl)); intro gb427 hg w8 hbox hb; have n0_ := Aside0.mk (below_step (by repeat (first | (with_reducible first | exact HB.out | apply below_alloc | apply pw_below_drewN | apply below_drew1) | exact HB.out)) hb); have n1_ := Aside0.mk (hbox); have n2_ := Aside0.mk ((by rw [hg]; exact (below_size (by repeat (first | (with_reducible first | exact HB.out | apply below_alloc | apply pw_below_drewN | apply below_drew1) | exact HB.out))) : w.heap.size ≤ gb427)); have n3_ := Aside0.mk ((by rw [hg]; exact (below_size (by repeat (first | (with_reducible first | exact HB.out | apply below_alloc | apply pw_below_drewN | apply below_drew1) | exact HB.out))) : w.heap.size ≤ gb427)); clear HB; have HB := n0_; have BK427 := n1_; have GW427 := n2_; have GE427 := n3_; clear n0_ n1_ n2_ n3_; clear hb hbox hg; have hcz9_0 : w8.cell? ⟨gb427, 0, none⟩ = some (.string a0_0) := (blk_cell BK427.out 0).trans rfl; have hcz9_1 : w8.cell? ⟨gb427, 1, none⟩ = some (.slice A0_1 l0_1.length c0_1) := (blk_cell BK427.out 1).trans rfl; have hcz9_2 : w8.cell? ⟨gb427, 2, none⟩ = some (.slice A0_2 l0_2.length c0_2) := (blk_cell BK427.out 2).trans rfl; have hfz9_0 := blk_frozen BK427.out 0; have hfz9_1 := blk_frozen BK427.out 1; have hfz9_2 := blk_frozen BK427.out 2) | ((with_reducible refine gate_callee (f := 8) rfl ?_); refine goesL_ (some 19) rfl rfl Tryd.func8 (by kernel_rfl) rfl #[.agg #[.string a0_0, .slice A0_1 l0_1.length c0_1, .slice A0_2 l0_2.length c0_2]] rfl (by (try simp only [List.map_toArray, List.map_cons, List.map_nil]); first | done | rfl | (simp only [List.length_drop, List.length_take]; rfl)) ?_; (with_reducible refine (remontoirkeep_LightDef.calls k a0_0 _ _ l0_1 _ _ l0_2 true _ ?side1 ?side2 ?side3 ?side4 A4.out).mono ?_); (case side1 => repeat (first | exact (Kd.C_below HR0_1.out HB.out) | (with_reducible refine Kd.C_alloc ?_ _) | (with_reducible refine Kd.C_drewN ?_ _) | (with_reducible refine Kd.C_drew ?_))); (case side2 => exact HC0_1.out); (case side3 => repeat (first | exact (Kd.C_below HR0_2.out HB.out) | (with_reducible refine Kd.C_alloc ?_ _) | (with_reducible refine Kd.C_drewN ?_ _) | (with_reducible refine Kd.C_drew ?_))); (case side4 => exact HC0_2.out); rintro e w10 ⟨rfl, hb⟩; refine ⟨_, rfl, ?_⟩; have n0_ := Aside0.mk (blk_below (g := gb427) (o := .cells #[.string a0_0, .slice A0_1 l0_1.length c0_1, .slice A0_2 l0_2.length c0_2] 25 (0, 0)) (by (with_reducible repeat (first | refine blk_drewN ?_ _ | refine blk_drew ?_ | refine blk_alloc ?_ _)); exact BK427.out) hb); have n1_ := Aside0.mk (below_step (by repeat (first | (with_reducible first | exact HB.out | apply below_alloc | apply pw_below_drewN | apply below_drew1 | refine below_set ?_ GE427.out) | exact HB.out)) hb); clear BK427; clear HB; have BK427 := n0_; have HB := n1_; clear n0_ n1_; (try clear hb); (try clear hb2); (try clear hk); (try clear hi); have hcz11_0 : w10.cell? ⟨gb427, 0, none⟩ = some (.string a0_0) := (blk_cell BK427.out 0).trans rfl; have hcz11_1 : w10.cell? ⟨gb427, 1, none⟩ = some (.slice A0_1 l0_1.length c0_1) := (blk_cell BK427.out 1).trans rfl; have hcz11_2 : w10.cell? ⟨gb427, 2, none⟩ = some (.slice A0_2 l0_2.length c0_2) := (blk_cell BK427.out 2).trans rfl; have hfz11_0 := blk_frozen BK427.out 0; have hfz11_1 := blk_frozen BK427.out 1; have hfz11_2 := blk_frozen BK427.out 2) | ((with_reducible refine gate_callee (f := 10) rfl ?_); refine goesL_ (some 24) rfl rfl Tryd.func10 (by kernel_rfl) rfl #[.agg #[.string a0_0, .slice A0_1 l0_1.length c0_1, .slice A0_2 l0_2.length c0_2]] rfl (by (try simp only [List.map_toArray, List.map_cons, List.map_nil]); first | done | rfl | (simp only [List.length_drop, List.length_take]; rfl)) ?_; (with_reducible refine (def_Print.calls k a0_0 _ _ l0_1 _ _ l0_2 t430 t431 _ (Tab.below hTab (by repeat (first | exact HB.out | apply below_alloc | apply pw_below_drewN | apply below_drew1 | (refine below_set ?_ (Aside0.out ?_) <;> (first | assumption | skip)))))  ?side1 ?side2 ?side3 ?side4 A6.out).mono ?_); (case side1 => repeat (first | exact (Kd.C_below HR0_1.out HB.out) | (with_reducible refine Kd.C_alloc ?_ _) | (with_reducible refine Kd.C_drewN ?_ _) | (with_reducible refine Kd.C_drew ?_))); (case side2 => exact HC0_1.out); (case side3 => repeat (first | exact (Kd.C_below HR0_2.out HB.out) | (with_reducible refine Kd.C_alloc ?_ _) | (with_reducible refine Kd.C_drewN ?_ _) | (with_reducible refine Kd.C_drew ?_))); (case side4 => exact HC0_2.out); rintro e w12 ⟨rfl, hb⟩; refine ⟨_, rfl, ?_⟩; have n0_ := Aside0.mk (blk_below (g := gb427) (o := .cells #[.string a0_0, .slice A0_1 l0_1.length c0_1, .slice A0_2 l0_2.length c0_2] 25 (0, 0)) (by (with_reducible repeat (first | refine blk_drewN ?_ _ | refine blk_drew ?_ | refine blk_alloc ?_ _)); exact BK427.out) hb); have n1_ := Aside0.mk (below_step (by repeat (first | (with_reducible first | exact HB.out | apply below_alloc | apply pw_below_drewN | apply below_drew1 | refine below_set ?_ GE427.out) | exact HB.out)) hb); clear BK427; clear HB; have BK427 := n0_; have HB := n1_; clear n0_ n1_; (try clear hb); (try clear hb2); (try clear hk); (try clear hi)))
  (try simp only [Act.put, List.setIfInBounds_toArray, List.set_cons_zero, List.set_cons_succ])
  go_cut [33] (fun v33 wc => ∃ (kq : Nat) (x33_6 : Bool), v33 = .bool x33_6 ∧ Aside0 (remontoirlaw17_DefWrong.j0 kq a1 a2 t430 x33_6 a0_0 l0_1 l0_2 = some r) ∧ Aside0 (kq ≤ k) ∧ Aside0 (wc.heap[gb427]? = some (.cells #[.string a0_0, (.slice A0_1 l0_1.length c0_1), (.slice A0_2 l0_2.length c0_2)] 25 (0, 0))) ∧ Aside0 (Below w.heap.size w wc))
  case first =>
   have H := HC7.out
   clear HC7
   by_cases c13 : t431 = true
   ·
    subst c13
    have H1 : (remontoirlaw17_DefWrong.j0 k a1 a2 t430 (decide ((t430.size : Int) > 5940)) a0_0 l0_1 l0_2) = some r := by rw [if_pos rfl] at H; exact H
    clear H
    have H := H1
    clear H1
    have H' := Aside0.mk H
    clear H
    go_wp2
    go_meet
    case rel => exact ⟨_, (decide ((t430.size : Int) > 5940)), (by first | rfl | (simp; done) | (simp [*]; done)), H', ⟨by first | omega | exact Nat.le_refl _⟩, ⟨by (with_reducible repeat (first | refine blk_drewN ?_ _ | refine blk_drew ?_ | refine blk_alloc ?_ _)); exact BK427.out⟩, ⟨by repeat (first | (with_reducible first | exact HB.out | apply below_alloc | apply pw_below_drewN | apply below_drew1 | refine below_set ?_ GE427.out) | exact HB.out)⟩⟩
   ·
    replace c13 := Bool.eq_false_iff.mpr c13
    subst c13
    have H1 : (remontoirlaw17_DefWrong.j0 k a1 a2 t430 true a0_0 l0_1 l0_2) = some r := by rw [if_neg (show ¬ (false = true) by decide)] at H; exact H
    clear H
    have H := H1
    clear H1
    have H' := Aside0.mk H
    clear H
    go_wp2
    go_meet
    case rel => exact ⟨_, (true), (by first | rfl | (simp; done) | (simp [*]; done)), H', ⟨by first | omega | exact Nat.le_refl _⟩, ⟨by (with_reducible repeat (first | refine blk_drewN ?_ _ | refine blk_drew ?_ | refine blk_alloc ?_ _)); exact BK427.out⟩, ⟨by repeat (first | (with_reducible first | exact HB.out | apply below_alloc | apply pw_below_drewN | apply below_drew1 | refine below_set ?_ GE427.out) | exact HB.out)⟩⟩
  case rest =>
   clear HC7
   try clear c1
   try clear p2
   try clear c5
   try clear c6
   try clear c8
   try clear c10
   try clear c13
   try clear hcz11_0
   try clear hcz11_1
   try clear hcz11_2
   try clear hcz9_0
   try clear hcz9_1
   try clear hcz9_2
   try clear hfz11_0
   try clear hfz11_1
   try clear hfz11_2
   try clear hfz9_0
   try clear hfz9_1
   try clear hfz9_2
   obtain ⟨kq, x33_6, rfl, HA, HJ6, BK427, HB⟩ := hcut
   cases kq with
   | zero => exact absurd HA.out (by simp [remontoirlaw17_DefWrong.j0])
   | succ kj6 =>
    have H := HA.out
    clear HA
    simp only [remontoirlaw17_DefWrong.j0] at H
    by_cases c14 : x33_6 = true
    ·
     subst c14
     have H1 : ((remontoirlaw17_wakes.f kj6).bind fun t432 => (some t432)) = some r := by rw [if_pos rfl] at H; exact H
     clear H
     have H := H1
     clear H1
     replace H := Option.bind_eq_some_iff.mp H
     obtain ⟨t432, A150, H⟩ := H
     replace H : (some t432) = some r := H
     have A15 := Aside0.mk A150
     clear A150
     obtain rfl := Option.some.inj H
     go_wp2_with (first | ((with_reducible refine gate_callee (f := 9) rfl ?_); refine goesL_ (some 34) rfl rfl Tryd.func9 (by kernel_rfl) rfl #[] rfl (by (try simp only [List.map_toArray, List.map_cons, List.map_nil]); first | done | rfl | (simp only [List.length_drop, List.length_take]; rfl)) ?_; (with_reducible refine (remontoirlaw17_wakes.calls kj6  t432 _ (Tab.below hTab (by repeat (first | exact HB.out | apply below_alloc | apply pw_below_drewN | apply below_drew1 | (refine below_set ?_ (Aside0.out ?_) <;> (first | assumption | skip)))))  A15.out).mono ?_); rintro e w16 ⟨rfl, hb⟩; refine ⟨_, rfl, ?_⟩; have n0_ := Aside0.mk (blk_below (g := gb427) (o := .cells #[.string a0_0, .slice A0_1 l0_1.length c0_1, .slice A0_2 l0_2.length c0_2] 25 (0, 0)) (by (with_reducible repeat (first | refine blk_drewN ?_ _ | refine blk_drew ?_ | refine blk_alloc ?_ _)); exact BK427.out) hb); have n1_ := Aside0.mk (below_step (by repeat (first | (with_reducible first | exact HB.out | apply below_alloc | apply pw_below_drewN | apply below_drew1 | refine below_set ?_ GE427.out) | exact HB.out)) hb); clear BK427; clear HB; have BK427 := n0_; have HB := n1_; clear n0_ n1_; (try clear hb); (try clear hb2); (try clear hk); (try clear hi)))
     go_ret
     exact ⟨by first | rfl | (simp [errW_none, errW_some] <;> rfl) | (simp [*, errW_none, errW_some] <;> rfl) | (simp [errW_none, errW_some]; exact isEmpty_ne _), by repeat (first | (with_reducible first | exact HB.out | apply below_alloc | apply pw_below_drewN | apply below_drew1 | refine below_set ?_ GE427.out) | exact HB.out)⟩
    ·
     replace c14 := Bool.eq_false_iff.mpr c14
     subst c14
     have H1 : ((words_Lines.f kj6 t430).bind fun bt433 => (if bt433.2 = 0 then (remontoirlaw17_DefWrong.j1 kj6 a1 a2 t430 bt433.1 ((bt433.1.length : Int) == 0) a0_0 l0_1 l0_2) else (remontoirlaw17_DefWrong.j1 kj6 a1 a2 t430 bt433.1 true a0_0 l0_1 l0_2))) = some r := by rw [if_neg (show ¬ (false = true) by decide)] at H; exact H
     clear H
     have H := H1
     clear H1
     replace H := Option.bind_eq_some_iff.mp H
     obtain ⟨⟨t433, t434⟩, A170, H⟩ := H
     replace H : (if t434 = 0 then (remontoirlaw17_DefWrong.j1 kj6 a1 a2 t430 t433 ((t433.length : Int) == 0) a0_0 l0_1 l0_2) else (remontoirlaw17_DefWrong.j1 kj6 a1 a2 t430 t433 true a0_0 l0_1 l0_2)) = some r := H
     have A17 := Aside0.mk A170
     clear A170
     have HC18 := Aside0.mk H
     clear H
     go_upto_region 7 with (first | ((with_reducible refine gate_callee (f := 13) rfl ?_); refine goesL_ (some 37) rfl rfl Tryd.func13 (by kernel_rfl) rfl #[.string t430] rfl (by (try simp only [List.map_toArray, List.map_cons, List.map_nil]); first | done | rfl | (simp only [List.length_drop, List.length_take]; rfl)) ?_; (with_reducible refine (words_Lines.calls kj6 t430 t433 t434 _ A17.out).mono ?_); rintro e w19 ⟨v435, rfl, ho0, hb⟩; refine ⟨_, rfl, ?_⟩; have n0_ := Aside0.mk (Kd.R_lower ho0 (below_size (by repeat (first | (with_reducible first | exact HB.out | apply below_alloc | apply pw_below_drewN | apply below_drew1 | refine below_set ?_ GE427.out) | exact HB.out)))); have n1_ := Aside0.mk (blk_below (g := gb427) (o := .cells #[.string a0_0, .slice A0_1 l0_1.length c0_1, .slice A0_2 l0_2.length c0_2] 25 (0, 0)) (by (with_reducible repeat (first | refine blk_drewN ?_ _ | refine blk_drew ?_ | refine blk_alloc ?_ _)); exact BK427.out) hb); have n2_ := Aside0.mk (below_step (by repeat (first | (with_reducible first | exact HB.out | apply below_alloc | apply pw_below_drewN | apply below_drew1 | refine below_set ?_ GE427.out) | exact HB.out)) hb); clear BK427; clear HB; have HO436 := n0_; have BK427 := n1_; have HB := n2_; clear n0_ n1_ n2_; (try clear hb); (try clear hb2); (try clear hk); (try clear hi); (try clear ho0)))
     (try simp only [Act.put, List.setIfInBounds_toArray, List.set_cons_zero, List.set_cons_succ])
     go_cut [46] (fun v46 wc => ∃ (kq : Nat) (x46_17 : Bool), v46 = .bool x46_17 ∧ Aside0 (remontoirlaw17_DefWrong.j1 kq a1 a2 t430 t433 x46_17 a0_0 l0_1 l0_2 = some r) ∧ Aside0 (kq ≤ kj6) ∧ Aside0 (Kd.R Kd.string 9 wc w.heap.size (fun _ => True) v435 t433) ∧ Aside0 (wc.heap[gb427]? = some (.cells #[.string a0_0, (.slice A0_1 l0_1.length c0_1), (.slice A0_2 l0_2.length c0_2)] 25 (0, 0))) ∧ Aside0 (Below w.heap.size w wc))
     case first =>
      have H := HC18.out
      clear HC18
      by_cases c20 : t434 = 0
      ·
       rw [if_pos c20] at H
       have c20b0 : (t434 == 0) = true := beq_iff_eq.mpr c20
       have c20b1 : (t434 != 0) = false := bne_eq_false_iff_eq.mpr c20
       clear c20
       (first | rw [c20b0] | (simp only [i64_w, i32_w]; rw [c20b0]) | skip)
       have H' := Aside0.mk H
       clear H
       obtain ⟨Ao21, co21, eo21⟩ := Kd.R_slice HO436.out
       subst eo21
       go_wp2
       go_meet
       case rel => exact ⟨_, (((t433.length : Int) == 0)), (by first | rfl | (simp; done) | (simp [*]; done)), H', ⟨by have := HJ6.out; first | omega | exact Nat.le_refl _⟩, ⟨by (with_reducible repeat (first | apply Kd.R_alloc | apply Kd.R_drewN | apply Kd.R_drew)); exact HO436.out⟩, ⟨by (with_reducible repeat (first | refine blk_drewN ?_ _ | refine blk_drew ?_ | refine blk_alloc ?_ _)); exact BK427.out⟩, ⟨by repeat (first | (with_reducible first | exact HB.out | apply below_alloc | apply pw_below_drewN | apply below_drew1 | refine below_set ?_ GE427.out) | exact HB.out)⟩⟩
      ·
       rw [if_neg c20] at H
       have c20b0 : (t434 == 0) = false := beq_eq_false_iff_ne.mpr c20
       have c20b1 : (t434 != 0) = true := bne_iff_ne.mpr c20
       (first | rw [c20b0] | (simp only [i64_w, i32_w]; rw [c20b0]) | skip)
       have H' := Aside0.mk H
       clear H
       go_wp2
       go_meet
       case rel => exact ⟨_, (true), (by first | rfl | (simp; done) | (simp [*]; done)), H', ⟨by have := HJ6.out; first | omega | exact Nat.le_refl _⟩, ⟨by (with_reducible repeat (first | apply Kd.R_alloc | apply Kd.R_drewN | apply Kd.R_drew)); exact HO436.out⟩, ⟨by (with_reducible repeat (first | refine blk_drewN ?_ _ | refine blk_drew ?_ | refine blk_alloc ?_ _)); exact BK427.out⟩, ⟨by repeat (first | (with_reducible first | exact HB.out | apply below_alloc | apply pw_below_drewN | apply below_drew1 | refine below_set ?_ GE427.out) | exact HB.out)⟩⟩
     case rest =>
      clear HC18
      try clear c1
      try clear c2
      try clear p2
      try clear c5
      try clear c6
      try clear c8
      try clear c9
      try clear c10
      try clear c13
      try clear c14
      try clear c20
      try clear c20b0
      try clear c20b1
      try clear hcz11_0
      try clear hcz11_1
      try clear hcz11_2
      try clear hcz9_0
      try clear hcz9_1
      try clear hcz9_2
      try clear hfz11_0
      try clear hfz11_1
      try clear hfz11_2
      try clear hfz9_0
      try clear hfz9_1
      try clear hfz9_2
      try clear p2
      obtain ⟨kq, x46_17, rfl, HA, HJ17, HO_9, BK427, HB⟩ := hcut
      cases kq with
      | zero => exact absurd HA.out (by simp [remontoirlaw17_DefWrong.j1])
      | succ kj17 =>
       have H := HA.out
       clear HA
       simp only [remontoirlaw17_DefWrong.j1] at H
       by_cases c22 : x46_17 = true
       ·
        subst c22
        have H1 : (some false) = some r := by rw [if_pos rfl] at H; exact H
        clear H
        have H := H1
        clear H1
        obtain rfl := Option.some.inj H
        go_wp2
        go_ret
        exact ⟨by first | rfl | (simp [errW_none, errW_some] <;> rfl) | (simp [*, errW_none, errW_some] <;> rfl) | (simp [errW_none, errW_some]; exact isEmpty_ne _), by repeat (first | (with_reducible first | exact HB.out | apply below_alloc | apply pw_below_drewN | apply below_drew1 | refine below_set ?_ GE427.out) | exact HB.out)⟩
       ·
        replace c22 := Bool.eq_false_iff.mpr c22
        subst c22
        have H1 : (if (wrap64 ((t433.length : Int) + 1)) = 0 then (none) else (remontoirlaw17_DefWrong.l0 kj17 a2 t430 t433 (([(⟨#[]⟩ : ByteArray), (⟨#[115, 116, 97, 114, 116]⟩ : ByteArray), (⟨#[115, 116, 97, 114, 116, 32, 120]⟩ : ByteArray), (⟨#[115, 116, 97, 114, 116, 32, 48, 32, 48]⟩ : ByteArray), (⟨#[116, 97, 115, 107, 32, 48]⟩ : ByteArray), (⟨#[116, 97, 115, 107, 32, 48, 32, 48, 49]⟩ : ByteArray), (⟨#[99, 97, 116, 99, 104, 32, 48]⟩ : ByteArray), (⟨#[115, 116, 111, 112, 32, 48, 32, 49]⟩ : ByteArray), (⟨#[115, 105, 100, 101, 32, 48, 32, 49, 32, 80, 84, 49, 83, 32, 120]⟩ : ByteArray), (⟨#[102, 108, 111, 119, 32, 49]⟩ : ByteArray), (⟨#[102, 108, 111, 119, 32, 49, 32, 120]⟩ : ByteArray), (⟨#[102, 108, 111, 119, 32, 49, 32, 50, 32, 105, 102]⟩ : ByteArray), (⟨#[102, 108, 111, 119, 32, 49, 32, 50, 32, 97, 103, 97, 105, 110, 32, 51]⟩ : ByteArray), (⟨#[102, 108, 111, 119, 32, 49, 32, 50, 32, 97, 103, 97, 105, 110, 32, 51, 32, 105, 102]⟩ : ByteArray), (⟨#[102, 108, 111, 119, 32, 49, 32, 50, 32, 68, 101, 102, 97, 117, 108, 116]⟩ : ByteArray), (⟨#[83, 116, 97, 114, 116, 32, 48]⟩ : ByteArray), (⟨#[115, 116, 97, 114, 116, 32, 32, 48]⟩ : ByteArray), (⟨#[32, 115, 116, 97, 114, 116, 32, 48]⟩ : ByteArray), (⟨#[115, 116, 97, 114, 116, 32, 48, 32]⟩ : ByteArray), (⟨#[112, 114, 111, 99, 101, 115, 115, 32, 98]⟩ : ByteArray), (⟨#[101, 110, 100, 32, 49, 48, 48, 48]⟩ : ByteArray)] : List ByteArray)) (Int.tmod (wrap64 (a1)) (wrap64 ((t433.length : Int) + 1))) (⟨#[]⟩ : ByteArray) 0 a0_0 l0_1 l0_2)) = some r := by rw [if_neg (show ¬ (false = true) by decide)] at H; exact H
        clear H
        have H := H1
        clear H1
        obtain ⟨y437, hy437⟩ : ∃ y_ : List ByteArray, y_ = (([(⟨#[]⟩ : ByteArray), (⟨#[115, 116, 97, 114, 116]⟩ : ByteArray), (⟨#[115, 116, 97, 114, 116, 32, 120]⟩ : ByteArray), (⟨#[115, 116, 97, 114, 116, 32, 48, 32, 48]⟩ : ByteArray), (⟨#[116, 97, 115, 107, 32, 48]⟩ : ByteArray), (⟨#[116, 97, 115, 107, 32, 48, 32, 48, 49]⟩ : ByteArray), (⟨#[99, 97, 116, 99, 104, 32, 48]⟩ : ByteArray), (⟨#[115, 116, 111, 112, 32, 48, 32, 49]⟩ : ByteArray), (⟨#[115, 105, 100, 101, 32, 48, 32, 49, 32, 80, 84, 49, 83, 32, 120]⟩ : ByteArray), (⟨#[102, 108, 111, 119, 32, 49]⟩ : ByteArray), (⟨#[102, 108, 111, 119, 32, 49, 32, 120]⟩ : ByteArray), (⟨#[102, 108, 111, 119, 32, 49, 32, 50, 32, 105, 102]⟩ : ByteArray), (⟨#[102, 108, 111, 119, 32, 49, 32, 50, 32, 97, 103, 97, 105, 110, 32, 51]⟩ : ByteArray), (⟨#[102, 108, 111, 119, 32, 49, 32, 50, 32, 97, 103, 97, 105, 110, 32, 51, 32, 105, 102]⟩ : ByteArray), (⟨#[102, 108, 111, 119, 32, 49, 32, 50, 32, 68, 101, 102, 97, 117, 108, 116]⟩ : ByteArray), (⟨#[83, 116, 97, 114, 116, 32, 48]⟩ : ByteArray), (⟨#[115, 116, 97, 114, 116, 32, 32, 48]⟩ : ByteArray), (⟨#[32, 115, 116, 97, 114, 116, 32, 48]⟩ : ByteArray), (⟨#[115, 116, 97, 114, 116, 32, 48, 32]⟩ : ByteArray), (⟨#[112, 114, 111, 99, 101, 115, 115, 32, 98]⟩ : ByteArray), (⟨#[101, 110, 100, 32, 49, 48, 48, 48]⟩ : ByteArray)] : List ByteArray)) := ⟨_, rfl⟩
        replace H : (if (wrap64 ((t433.length : Int) + 1)) = 0 then (none) else (remontoirlaw17_DefWrong.l0 kj17 a2 t430 t433 y437 (Int.tmod (wrap64 (a1)) (wrap64 ((t433.length : Int) + 1))) (⟨#[]⟩ : ByteArray) 0 a0_0 l0_1 l0_2)) = some r := by first | (rw [hy437]; with_reducible exact H) | (have H2_ := (Option.bind_some _ _).symm.trans H; rw [hy437]; with_reducible exact H2_) | (have H2_ := (Option.bind_some _ _).symm.trans H; with_reducible exact H2_) | with_reducible exact H | (rw [hy437]; exact H) | exact H
        have Ny437 := Aside0.mk hy437
        clear hy437
        by_cases c23 : (wrap64 ((t433.length : Int) + 1)) = 0
        ·
         rw [if_pos c23] at H
         exact absurd H (by simp)
        ·
         rw [if_neg c23] at H
         have c23b0 : ((wrap64 ((t433.length : Int) + 1)) == 0) = false := beq_eq_false_iff_ne.mpr c23
         have c23b1 : ((wrap64 ((t433.length : Int) + 1)) != 0) = true := bne_iff_ne.mpr c23
         have H' := Aside0.mk H
         clear H
         go_wp2_with (first | ((with_reducible refine gate_dst (N := 47) rfl ?_); (try (refine gate_guard (by rfl) ?_; dsimp only)); refine Kd.R_lit Kd.string _ 9 ?hg (N := 47) ?hd (xs := ([(⟨#[]⟩ : ByteArray), (⟨#[115, 116, 97, 114, 116]⟩ : ByteArray), (⟨#[115, 116, 97, 114, 116, 32, 120]⟩ : ByteArray), (⟨#[115, 116, 97, 114, 116, 32, 48, 32, 48]⟩ : ByteArray), (⟨#[116, 97, 115, 107, 32, 48]⟩ : ByteArray), (⟨#[116, 97, 115, 107, 32, 48, 32, 48, 49]⟩ : ByteArray), (⟨#[99, 97, 116, 99, 104, 32, 48]⟩ : ByteArray), (⟨#[115, 116, 111, 112, 32, 48, 32, 49]⟩ : ByteArray), (⟨#[115, 105, 100, 101, 32, 48, 32, 49, 32, 80, 84, 49, 83, 32, 120]⟩ : ByteArray), (⟨#[102, 108, 111, 119, 32, 49]⟩ : ByteArray), (⟨#[102, 108, 111, 119, 32, 49, 32, 120]⟩ : ByteArray), (⟨#[102, 108, 111, 119, 32, 49, 32, 50, 32, 105, 102]⟩ : ByteArray), (⟨#[102, 108, 111, 119, 32, 49, 32, 50, 32, 97, 103, 97, 105, 110, 32, 51]⟩ : ByteArray), (⟨#[102, 108, 111, 119, 32, 49, 32, 50, 32, 97, 103, 97, 105, 110, 32, 51, 32, 105, 102]⟩ : ByteArray), (⟨#[102, 108, 111, 119, 32, 49, 32, 50, 32, 68, 101, 102, 97, 117, 108, 116]⟩ : ByteArray), (⟨#[83, 116, 97, 114, 116, 32, 48]⟩ : ByteArray), (⟨#[115, 116, 97, 114, 116, 32, 32, 48]⟩ : ByteArray), (⟨#[32, 115, 116, 97, 114, 116, 32, 48]⟩ : ByteArray), (⟨#[115, 116, 97, 114, 116, 32, 48, 32]⟩ : ByteArray), (⟨#[112, 114, 111, 99, 101, 115, 115, 32, 98]⟩ : ByteArray), (⟨#[101, 110, 100, 32, 49, 48, 48, 48]⟩ : ByteArray)] : List ByteArray)) (inner := [.string (⟨#[]⟩ : ByteArray), .string (⟨#[115, 116, 97, 114, 116]⟩ : ByteArray), .string (⟨#[115, 116, 97, 114, 116, 32, 120]⟩ : ByteArray), .string (⟨#[115, 116, 97, 114, 116, 32, 48, 32, 48]⟩ : ByteArray), .string (⟨#[116, 97, 115, 107, 32, 48]⟩ : ByteArray), .string (⟨#[116, 97, 115, 107, 32, 48, 32, 48, 49]⟩ : ByteArray), .string (⟨#[99, 97, 116, 99, 104, 32, 48]⟩ : ByteArray), .string (⟨#[115, 116, 111, 112, 32, 48, 32, 49]⟩ : ByteArray), .string (⟨#[115, 105, 100, 101, 32, 48, 32, 49, 32, 80, 84, 49, 83, 32, 120]⟩ : ByteArray), .string (⟨#[102, 108, 111, 119, 32, 49]⟩ : ByteArray), .string (⟨#[102, 108, 111, 119, 32, 49, 32, 120]⟩ : ByteArray), .string (⟨#[102, 108, 111, 119, 32, 49, 32, 50, 32, 105, 102]⟩ : ByteArray), .string (⟨#[102, 108, 111, 119, 32, 49, 32, 50, 32, 97, 103, 97, 105, 110, 32, 51]⟩ : ByteArray), .string (⟨#[102, 108, 111, 119, 32, 49, 32, 50, 32, 97, 103, 97, 105, 110, 32, 51, 32, 105, 102]⟩ : ByteArray), .string (⟨#[102, 108, 111, 119, 32, 49, 32, 50, 32, 68, 101, 102, 97, 117, 108, 116]⟩ : ByteArray), .string (⟨#[83, 116, 97, 114, 116, 32, 48]⟩ : ByteArray), .string (⟨#[115, 116, 97, 114, 116, 32, 32, 48]⟩ : ByteArray), .string (⟨#[32, 115, 116, 97, 114, 116, 32, 48]⟩ : ByteArray), .string (⟨#[115, 116, 97, 114, 116, 32, 48, 32]⟩ : ByteArray), .string (⟨#[112, 114, 111, 99, 101, 115, 115, 32, 98]⟩ : ByteArray), .string (⟨#[101, 110, 100, 32, 49, 48, 48, 48]⟩ : ByteArray)]) (ok := fun _ => True) (okp := fun _ => True) ?hr ?hp (fun _ hk => hk) trivial (Below.refl _ _) (Nat.le_refl _) (by simp) ?_; (case hd => rfl); (case hg => rfl); (case hr => first | (go_simp; done) | (go_simp; rfl)); (case hp => exact (Reps.one (show Kd.M Kd.string _ _ _ (⟨#[]⟩ : ByteArray) [.string (⟨#[]⟩ : ByteArray)] from rfl) (Reps.one (show Kd.M Kd.string _ _ _ (⟨#[115, 116, 97, 114, 116]⟩ : ByteArray) [.string (⟨#[115, 116, 97, 114, 116]⟩ : ByteArray)] from rfl) (Reps.one (show Kd.M Kd.string _ _ _ (⟨#[115, 116, 97, 114, 116, 32, 120]⟩ : ByteArray) [.string (⟨#[115, 116, 97, 114, 116, 32, 120]⟩ : ByteArray)] from rfl) (Reps.one (show Kd.M Kd.string _ _ _ (⟨#[115, 116, 97, 114, 116, 32, 48, 32, 48]⟩ : ByteArray) [.string (⟨#[115, 116, 97, 114, 116, 32, 48, 32, 48]⟩ : ByteArray)] from rfl) (Reps.one (show Kd.M Kd.string _ _ _ (⟨#[116, 97, 115, 107, 32, 48]⟩ : ByteArray) [.string (⟨#[116, 97, 115, 107, 32, 48]⟩ : ByteArray)] from rfl) (Reps.one (show Kd.M Kd.string _ _ _ (⟨#[116, 97, 115, 107, 32, 48, 32, 48, 49]⟩ : ByteArray) [.string (⟨#[116, 97, 115, 107, 32, 48, 32, 48, 49]⟩ : ByteArray)] from rfl) (Reps.one (show Kd.M Kd.string _ _ _ (⟨#[99, 97, 116, 99, 104, 32, 48]⟩ : ByteArray) [.string (⟨#[99, 97, 116, 99, 104, 32, 48]⟩ : ByteArray)] from rfl) (Reps.one (show Kd.M Kd.string _ _ _ (⟨#[115, 116, 111, 112, 32, 48, 32, 49]⟩ : ByteArray) [.string (⟨#[115, 116, 111, 112, 32, 48, 32, 49]⟩ : ByteArray)] from rfl) (Reps.one (show Kd.M Kd.string _ _ _ (⟨#[115, 105, 100, 101, 32, 48, 32, 49, 32, 80, 84, 49, 83, 32, 120]⟩ : ByteArray) [.string (⟨#[115, 105, 100, 101, 32, 48, 32, 49, 32, 80, 84, 49, 83, 32, 120]⟩ : ByteArray)] from rfl) (Reps.one (show Kd.M Kd.string _ _ _ (⟨#[102, 108, 111, 119, 32, 49]⟩ : ByteArray) [.string (⟨#[102, 108, 111, 119, 32, 49]⟩ : ByteArray)] from rfl) (Reps.one (show Kd.M Kd.string _ _ _ (⟨#[102, 108, 111, 119, 32, 49, 32, 120]⟩ : ByteArray) [.string (⟨#[102, 108, 111, 119, 32, 49, 32, 120]⟩ : ByteArray)] from rfl) (Reps.one (show Kd.M Kd.string _ _ _ (⟨#[102, 108, 111, 119, 32, 49, 32, 50, 32, 105, 102]⟩ : ByteArray) [.string (⟨#[102, 108, 111, 119, 32, 49, 32, 50, 32, 105, 102]⟩ : ByteArray)] from rfl) (Reps.one (show Kd.M Kd.string _ _ _ (⟨#[102, 108, 111, 119, 32, 49, 32, 50, 32, 97, 103, 97, 105, 110, 32, 51]⟩ : ByteArray) [.string (⟨#[102, 108, 111, 119, 32, 49, 32, 50, 32, 97, 103, 97, 105, 110, 32, 51]⟩ : ByteArray)] from rfl) (Reps.one (show Kd.M Kd.string _ _ _ (⟨#[102, 108, 111, 119, 32, 49, 32, 50, 32, 97, 103, 97, 105, 110, 32, 51, 32, 105, 102]⟩ : ByteArray) [.string (⟨#[102, 108, 111, 119, 32, 49, 32, 50, 32, 97, 103, 97, 105, 110, 32, 51, 32, 105, 102]⟩ : ByteArray)] from rfl) (Reps.one (show Kd.M Kd.string _ _ _ (⟨#[102, 108, 111, 119, 32, 49, 32, 50, 32, 68, 101, 102, 97, 117, 108, 116]⟩ : ByteArray) [.string (⟨#[102, 108, 111, 119, 32, 49, 32, 50, 32, 68, 101, 102, 97, 117, 108, 116]⟩ : ByteArray)] from rfl) (Reps.one (show Kd.M Kd.string _ _ _ (⟨#[83, 116, 97, 114, 116, 32, 48]⟩ : ByteArray) [.string (⟨#[83, 116, 97, 114, 116, 32, 48]⟩ : ByteArray)] from rfl) (Reps.one (show Kd.M Kd.string _ _ _ (⟨#[115, 116, 97, 114, 116, 32, 32, 48]⟩ : ByteArray) [.string (⟨#[115, 116, 97, 114, 116, 32, 32, 48]⟩ : ByteArray)] from rfl) (Reps.one (show Kd.M Kd.string _ _ _ (⟨#[32, 115, 116, 97, 114, 116, 32, 48]⟩ : ByteArray) [.string (⟨#[32, 115, 116, 97, 114, 116, 32, 48]⟩ : ByteArray)] from rfl) (Reps.one (show Kd.M Kd.string _ _ _ (⟨#[115, 116, 97, 114, 116, 32, 48, 32]⟩ : ByteArray) [.string (⟨#[115, 116, 97, 114, 116, 32, 48, 32]⟩ : ByteArray)] from rfl) (Reps.one (show Kd.M Kd.string _ _ _ (⟨#[112, 114, 111, 99, 101, 115, 115, 32, 98]⟩ : ByteArray) [.string (⟨#[112, 114, 111, 99, 101, 115, 115, 32, 98]⟩ : ByteArray)] from rfl) (Reps.one (show Kd.M Kd.string _ _ _ (⟨#[101, 110, 100, 32, 49, 48, 48, 48]⟩ : ByteArray) [.string (⟨#[101, 110, 100, 32, 49, 48, 48, 48]⟩ : ByteArray)] from rfl) (Reps.none _ _))))))))))))))))))))))); intro v438 w24 ho25 hb hg_ hnew_; clear hg_ hnew_; (first | rw [← Ny437.out] at ho25 | (simp only [Int.reduceToNat] at ho25; rw [← Ny437.out] at ho25)); have n0_ := Aside0.mk (Kd.R_elder' (by (with_reducible repeat (first | apply Kd.R_alloc | apply Kd.R_drewN | apply Kd.R_drew)); exact HO_9.out) (Kd.R_base ho25) hb); have n1_ := Aside0.mk (Kd.R_lower (Kd.R_new' ho25 (Kd.R_lt (by (with_reducible repeat (first | apply Kd.R_alloc | apply Kd.R_drewN | apply Kd.R_drew)); exact HO_9.out))) (below_size (by repeat (first | (with_reducible first | exact HB.out | apply below_alloc | apply pw_below_drewN | apply below_drew1 | refine below_set ?_ GE427.out) | exact HB.out)))); have n2_ := Aside0.mk (blk_below (g := gb427) (o := .cells #[.string a0_0, .slice A0_1 l0_1.length c0_1, .slice A0_2 l0_2.length c0_2] 25 (0, 0)) (by (with_reducible repeat (first | refine blk_drewN ?_ _ | refine blk_drew ?_ | refine blk_alloc ?_ _)); exact BK427.out) hb); have n3_ := Aside0.mk (below_step (by repeat (first | (with_reducible first | exact HB.out | apply below_alloc | apply pw_below_drewN | apply below_drew1 | refine below_set ?_ GE427.out) | exact HB.out)) hb); clear HO_9; clear BK427; clear HB; have HO_9 := n0_; have HO439 := n1_; have BK427 := n2_; have HB := n3_; clear n0_ n1_ n2_ n3_; clear hb ho25; obtain ⟨Ao26, co26, eo26⟩ := Kd.R_slice HO_9.out; subst eo26))
         go_loopg [13, 14] kj17 (fun kq v13 v14 w' => ∃ (x13_3 : ByteArray) (x14_3 : Int), v13 = .string x13_3 ∧ v14 = .int .i64 x14_3 ∧ Aside0 (remontoirlaw17_DefWrong.l0 kq a2 t430 t433 y437 (Int.tmod (wrap64 (a1)) (wrap64 ((t433.length : Int) + 1))) x13_3 x14_3 a0_0 l0_1 l0_2 = some r) ∧ Aside0 (kq ≤ kj17) ∧ Aside0 (Kd.R Kd.string 9 w' w.heap.size (fun k_ => some k_ ≠ (v438 : Value).ownBlock) (.slice Ao26 t433.length co26) t433) ∧ Aside0 (Kd.R Kd.string 9 w' w.heap.size (fun k_ => some k_ ≠ ((.slice Ao26 t433.length co26) : Value).ownBlock) v438 y437) ∧ Aside0 (w'.heap[gb427]? = some (.cells #[.string a0_0, (.slice A0_1 l0_1.length c0_1), (.slice A0_2 l0_2.length c0_2)] 25 (0, 0))) ∧ Aside0 (Below w.heap.size w w'))
         case atStart => exact ⟨((⟨#[]⟩ : ByteArray)), (0), (by first | rfl | (simp; done) | (simp [*]; done)), (by first | rfl | (simp; done) | (simp [*]; done)), H', ⟨Nat.le_refl _⟩, ⟨by (with_reducible repeat (first | apply Kd.R_alloc | apply Kd.R_drewN | apply Kd.R_drew)); exact Kd.R_mono HO_9.out (fun _ hk => hk.2)⟩, ⟨by (with_reducible repeat (first | apply Kd.R_alloc | apply Kd.R_drewN | apply Kd.R_drew)); exact Kd.R_mono HO439.out (fun _ hk => hk.2)⟩, ⟨by (with_reducible repeat (first | refine blk_drewN ?_ _ | refine blk_drew ?_ | refine blk_alloc ?_ _)); exact BK427.out⟩, ⟨by repeat (first | (with_reducible first | exact HB.out | apply below_alloc | apply pw_below_drewN | apply below_drew1 | refine below_set ?_ GE427.out) | exact HB.out)⟩⟩
         case round =>
          clear H'
          try clear c1
          try clear c2
          try clear p2
          try clear c5
          try clear c6
          try clear p6
          try clear c8
          try clear c9
          try clear c10
          try clear c13
          try clear c14
          try clear c20
          try clear c20b0
          try clear c20b1
          try clear c22
          try clear c23
          try clear c23b0
          try clear c23b1
          try clear hcz11_0
          try clear hcz11_1
          try clear hcz11_2
          try clear hcz9_0
          try clear hcz9_1
          try clear hcz9_2
          try clear hfz11_0
          try clear hfz11_1
          try clear hfz11_2
          try clear hfz9_0
          try clear hfz9_1
          try clear hfz9_2
          try clear p2
          obtain ⟨x13_3, x14_3, rfl, rfl, HA, HK3, HO_9, HO_11, BK427, HB⟩ := hrel
          cases gk with
          | zero => exact absurd HA.out (by simp [remontoirlaw17_DefWrong.l0])
          | succ k3 =>
           have H := HA.out
           clear HA
           simp only [remontoirlaw17_DefWrong.l0] at H
           by_cases c27 : x14_3 ≤ (t433.length : Int)
           ·
            rw [if_pos c27] at H
            have c27b0 : decide (x14_3 ≤ (t433.length : Int)) = true := decide_eq_true c27
            clear c27
            by_cases c28 : x14_3 = (Int.tmod (wrap64 (a1)) (wrap64 ((t433.length : Int) + 1)))
            ·
             rw [if_pos c28] at H
             have c28b0 : (x14_3 == (Int.tmod (wrap64 (a1)) (wrap64 ((t433.length : Int) + 1)))) = true := beq_iff_eq.mpr c28
             have c28b1 : (x14_3 != (Int.tmod (wrap64 (a1)) (wrap64 ((t433.length : Int) + 1)))) = false := bne_eq_false_iff_eq.mpr c28
             clear c28
             by_cases c29 : (y437.length : Int) = 0
             ·
              rw [if_pos c29] at H
              exact absurd H (by simp)
             ·
              rw [if_neg c29] at H
              have c29b0 : ((y437.length : Int) == 0) = false := beq_eq_false_iff_ne.mpr c29
              have c29b1 : ((y437.length : Int) != 0) = true := bne_iff_ne.mpr c29
              have c29b2 : ¬ (y437 = []) := fun h_ => c29 (by rw [h_]; rfl)
              obtain ⟨ji30, hji30⟩ : ∃ j_ : Int, (Int.tmod (wrap64 (a2)) (y437.length : Int)) = j_ := ⟨_, rfl⟩
              replace H : (if 0 ≤ (ji30) then (if (ji30) < (y437.length : Int) then (if (rdOf ByteArray.empty y437 (ji30)).size + 1 ≤ 9223372036854775807 then (if x13_3.size + ((rdOf ByteArray.empty y437 (ji30)) ++ (⟨#[10]⟩ : ByteArray)).size ≤ 9223372036854775807 then (if x14_3 < (t433.length : Int) then (if 0 ≤ x14_3 then (if (rdOf ByteArray.empty t433 x14_3).size + 1 ≤ 9223372036854775807 then (if (x13_3 ++ ((rdOf ByteArray.empty y437 (ji30)) ++ (⟨#[10]⟩ : ByteArray))).size + ((rdOf ByteArray.empty t433 x14_3) ++ (⟨#[10]⟩ : ByteArray)).size ≤ 9223372036854775807 then (remontoirlaw17_DefWrong.l0 k3 a2 t430 t433 y437 (Int.tmod (wrap64 (a1)) (wrap64 ((t433.length : Int) + 1))) ((x13_3 ++ ((rdOf ByteArray.empty y437 (ji30)) ++ (⟨#[10]⟩ : ByteArray))) ++ ((rdOf ByteArray.empty t433 x14_3) ++ (⟨#[10]⟩ : ByteArray))) (wrap64 (x14_3 + 1)) a0_0 l0_1 l0_2) else (none)) else (none)) else (none)) else (remontoirlaw17_DefWrong.l0 k3 a2 t430 t433 y437 (Int.tmod (wrap64 (a1)) (wrap64 ((t433.length : Int) + 1))) (x13_3 ++ ((rdOf ByteArray.empty y437 (ji30)) ++ (⟨#[10]⟩ : ByteArray))) (wrap64 (x14_3 + 1)) a0_0 l0_1 l0_2)) else (none)) else (none)) else (none)) else (none)) = some r := by first | (rw [hji30] at H; exact H) | (simp only [hji30] at H ⊢; exact H)
              by_cases c31 : 0 ≤ (ji30)
              ·
               rw [if_pos c31] at H
               have c31b0 : decide (0 ≤ (ji30)) = true := decide_eq_true c31
               clear c31
               by_cases c32 : (ji30) < (y437.length : Int)
               ·
                rw [if_pos c32] at H
                have c32b0 : decide ((ji30) < (y437.length : Int)) = true := decide_eq_true c32
                clear c32
                by_cases c33 : (rdOf ByteArray.empty y437 (ji30)).size + 1 ≤ 9223372036854775807
                ·
                 rw [if_pos c33] at H
                 have c33b0 := eq_true c33
                 have c33b1 : decide ((rdOf ByteArray.empty y437 (ji30)).size + 1 ≤ 9223372036854775807) = true := decide_eq_true c33
                 try have c33b2 : (9223372036854775807 < (rdOf ByteArray.empty y437 (ji30)).size + 1) = False := eq_false (Nat.not_lt.2 c33)
                 by_cases c34 : x13_3.size + ((rdOf ByteArray.empty y437 (ji30)) ++ (⟨#[10]⟩ : ByteArray)).size ≤ 9223372036854775807
                 ·
                  rw [if_pos c34] at H
                  have c34b0 := eq_true c34
                  have c34b1 : decide (x13_3.size + ((rdOf ByteArray.empty y437 (ji30)) ++ (⟨#[10]⟩ : ByteArray)).size ≤ 9223372036854775807) = true := decide_eq_true c34
                  have c34z := c34
                  try simp only [ByteArray.size_append, szlit, List.size_toArray, List.length_cons, List.length_nil, Nat.zero_add, Nat.reduceAdd] at c34z
                  try have c34b2 : (9223372036854775807 < x13_3.size + ((rdOf ByteArray.empty y437 (ji30)) ++ (⟨#[10]⟩ : ByteArray)).size) = False := eq_false (Nat.not_lt.2 c34)
                  try (have c34b2z := c34b2; simp only [ByteArray.size_append, szlit, List.size_toArray, List.length_cons, List.length_nil, Nat.zero_add, Nat.reduceAdd] at c34b2z)
                  try (have c34b2z := c34b2; simp only [ByteArray.size_append, szlit, List.size_toArray, List.length_cons, List.length_nil, Nat.zero_add, Nat.reduceAdd] at c34b2z)
                  by_cases c35 : x14_3 < (t433.length : Int)
                  ·
                   rw [if_pos c35] at H
                   have c35b0 : decide (x14_3 < (t433.length : Int)) = true := decide_eq_true c35
                   clear c35
                   by_cases c36 : 0 ≤ x14_3
                   ·
                    rw [if_pos c36] at H
                    have c36b0 : decide (0 ≤ x14_3) = true := decide_eq_true c36
                    clear c36
                    by_cases c37 : (rdOf ByteArray.empty t433 x14_3).size + 1 ≤ 9223372036854775807
                    ·
                     rw [if_pos c37] at H
                     have c37b0 := eq_true c37
                     have c37b1 : decide ((rdOf ByteArray.empty t433 x14_3).size + 1 ≤ 9223372036854775807) = true := decide_eq_true c37
                     try have c37b2 : (9223372036854775807 < (rdOf ByteArray.empty t433 x14_3).size + 1) = False := eq_false (Nat.not_lt.2 c37)
                     by_cases c38 : (x13_3 ++ ((rdOf ByteArray.empty y437 (ji30)) ++ (⟨#[10]⟩ : ByteArray))).size + ((rdOf ByteArray.empty t433 x14_3) ++ (⟨#[10]⟩ : ByteArray)).size ≤ 9223372036854775807
                     ·
                      rw [if_pos c38] at H
                      have c38b0 := eq_true c38
                      have c38b1 : decide ((x13_3 ++ ((rdOf ByteArray.empty y437 (ji30)) ++ (⟨#[10]⟩ : ByteArray))).size + ((rdOf ByteArray.empty t433 x14_3) ++ (⟨#[10]⟩ : ByteArray)).size ≤ 9223372036854775807) = true := decide_eq_true c38
                      have c38z := c38
                      try simp only [ByteArray.size_append, szlit, List.size_toArray, List.length_cons, List.length_nil, Nat.zero_add, Nat.reduceAdd] at c38z
                      try have c38b2 : (9223372036854775807 < (x13_3 ++ ((rdOf ByteArray.empty y437 (ji30)) ++ (⟨#[10]⟩ : ByteArray))).size + ((rdOf ByteArray.empty t433 x14_3) ++ (⟨#[10]⟩ : ByteArray)).size) = False := eq_false (Nat.not_lt.2 c38)
                      try (have c38b2z := c38b2; simp only [ByteArray.size_append, szlit, List.size_toArray, List.length_cons, List.length_nil, Nat.zero_add, Nat.reduceAdd] at c38b2z)
                      try (have c38b2z := c38b2; simp only [ByteArray.size_append, szlit, List.size_toArray, List.length_cons, List.length_nil, Nat.zero_add, Nat.reduceAdd] at c38b2z)
                      have H' := Aside0.mk H
                      clear H
                      obtain ⟨Ao39, co39, eo39⟩ := Kd.R_slice HO_11.out
                      subst eo39
                      have p440 : 0 ≤ ((ji30) : Int) := of_decide_eq_true (by first | (with_reducible assumption) | assumption)
                      have q440 : (ji30) < (y437.length : Int) := of_decide_eq_true (by first | (with_reducible assumption) | assumption)
                      obtain ⟨ad440, e440, hx440_0⟩ := Kd.at_string (Kd.R_reads' HO_11.out).2.2 (ji30) p440 q440
                      cases e440
                      replace p440 := eq_true p440
                      replace q440 := eq_true q440
                      have p441 : 0 ≤ (x14_3 : Int) := of_decide_eq_true (by first | (with_reducible assumption) | assumption)
                      have q441 : x14_3 < (t433.length : Int) := of_decide_eq_true (by first | (with_reducible assumption) | assumption)
                      obtain ⟨ad441, e441, hx441_0⟩ := Kd.at_string (Kd.R_reads' HO_9.out).2.2 x14_3 p441 q441
                      cases e441
                      replace p441 := eq_true p441
                      replace q441 := eq_true q441
                      go_wp2
                      go_roundg k3
                      case measure => have := HJ6.out; have := HJ17.out; have := HK3.out; omega
                      case rel => exact ⟨((x13_3 ++ ((rdOf ByteArray.empty y437 (ji30)) ++ (⟨#[10]⟩ : ByteArray))) ++ ((rdOf ByteArray.empty t433 x14_3) ++ (⟨#[10]⟩ : ByteArray))), (wrap64 (x14_3 + 1)), (by first | rfl | (simp; done) | (simp only [← hji30] <;> (first | rfl | simp)) | (simp [*]; done)), (by first | rfl | (simp; done) | (simp [*]; done)), H', ⟨by have := HJ6.out; have := HJ17.out; have := HK3.out; omega⟩, ⟨by (with_reducible repeat (first | apply Kd.R_alloc | apply Kd.R_drewN | apply Kd.R_drew)); exact HO_9.out⟩, ⟨by (with_reducible repeat (first | apply Kd.R_alloc | apply Kd.R_drewN | apply Kd.R_drew)); exact HO_11.out⟩, ⟨by (with_reducible repeat (first | refine blk_drewN ?_ _ | refine blk_drew ?_ | refine blk_alloc ?_ _)); exact BK427.out⟩, ⟨by repeat (first | (with_reducible first | exact HB.out | apply below_alloc | apply pw_below_drewN | apply below_drew1 | refine below_set ?_ GE427.out) | exact HB.out)⟩⟩
                     ·
                      rw [if_neg c38] at H
                      exact absurd H (by simp)
                    ·
                     rw [if_neg c37] at H
                     exact absurd H (by simp)
                   ·
                    rw [if_neg c36] at H
                    exact absurd H (by simp)
                  ·
                   rw [if_neg c35] at H
                   have c35b0 : decide (x14_3 < (t433.length : Int)) = false := decide_eq_false c35
                   clear c35
                   have H' := Aside0.mk H
                   clear H
                   obtain ⟨Ao40, co40, eo40⟩ := Kd.R_slice HO_11.out
                   subst eo40
                   have p440 : 0 ≤ ((ji30) : Int) := of_decide_eq_true (by first | (with_reducible assumption) | assumption)
                   have q440 : (ji30) < (y437.length : Int) := of_decide_eq_true (by first | (with_reducible assumption) | assumption)
                   obtain ⟨ad440, e440, hx440_0⟩ := Kd.at_string (Kd.R_reads' HO_11.out).2.2 (ji30) p440 q440
                   cases e440
                   replace p440 := eq_true p440
                   replace q440 := eq_true q440
                   go_wp2
                   go_roundg k3
                   case measure => have := HJ6.out; have := HJ17.out; have := HK3.out; omega
                   case rel => exact ⟨(x13_3 ++ ((rdOf ByteArray.empty y437 (ji30)) ++ (⟨#[10]⟩ : ByteArray))), (wrap64 (x14_3 + 1)), (by first | rfl | (simp; done) | (simp only [← hji30] <;> (first | rfl | simp)) | (simp [*]; done)), (by first | rfl | (simp; done) | (simp [*]; done)), H', ⟨by have := HJ6.out; have := HJ17.out; have := HK3.out; omega⟩, ⟨by (with_reducible repeat (first | apply Kd.R_alloc | apply Kd.R_drewN | apply Kd.R_drew)); exact HO_9.out⟩, ⟨by (with_reducible repeat (first | apply Kd.R_alloc | apply Kd.R_drewN | apply Kd.R_drew)); exact HO_11.out⟩, ⟨by (with_reducible repeat (first | refine blk_drewN ?_ _ | refine blk_drew ?_ | refine blk_alloc ?_ _)); exact BK427.out⟩, ⟨by repeat (first | (with_reducible first | exact HB.out | apply below_alloc | apply pw_below_drewN | apply below_drew1 | refine below_set ?_ GE427.out) | exact HB.out)⟩⟩
                 ·
                  rw [if_neg c34] at H
                  exact absurd H (by simp)
                ·
                 rw [if_neg c33] at H
                 exact absurd H (by simp)
               ·
                rw [if_neg c32] at H
                exact absurd H (by simp)
              ·
               rw [if_neg c31] at H
               exact absurd H (by simp)
            ·
             rw [if_neg c28] at H
             have c28b0 : (x14_3 == (Int.tmod (wrap64 (a1)) (wrap64 ((t433.length : Int) + 1)))) = false := beq_eq_false_iff_ne.mpr c28
             have c28b1 : (x14_3 != (Int.tmod (wrap64 (a1)) (wrap64 ((t433.length : Int) + 1)))) = true := bne_iff_ne.mpr c28
             by_cases c41 : x14_3 < (t433.length : Int)
             ·
              rw [if_pos c41] at H
              have c41b0 : decide (x14_3 < (t433.length : Int)) = true := decide_eq_true c41
              clear c41
              by_cases c42 : 0 ≤ x14_3
              ·
               rw [if_pos c42] at H
               have c42b0 : decide (0 ≤ x14_3) = true := decide_eq_true c42
               clear c42
               by_cases c43 : (rdOf ByteArray.empty t433 x14_3).size + 1 ≤ 9223372036854775807
               ·
                rw [if_pos c43] at H
                have c43b0 := eq_true c43
                have c43b1 : decide ((rdOf ByteArray.empty t433 x14_3).size + 1 ≤ 9223372036854775807) = true := decide_eq_true c43
                try have c43b2 : (9223372036854775807 < (rdOf ByteArray.empty t433 x14_3).size + 1) = False := eq_false (Nat.not_lt.2 c43)
                by_cases c44 : x13_3.size + ((rdOf ByteArray.empty t433 x14_3) ++ (⟨#[10]⟩ : ByteArray)).size ≤ 9223372036854775807
                ·
                 rw [if_pos c44] at H
                 have c44b0 := eq_true c44
                 have c44b1 : decide (x13_3.size + ((rdOf ByteArray.empty t433 x14_3) ++ (⟨#[10]⟩ : ByteArray)).size ≤ 9223372036854775807) = true := decide_eq_true c44
                 have c44z := c44
                 try simp only [ByteArray.size_append, szlit, List.size_toArray, List.length_cons, List.length_nil, Nat.zero_add, Nat.reduceAdd] at c44z
                 try have c44b2 : (9223372036854775807 < x13_3.size + ((rdOf ByteArray.empty t433 x14_3) ++ (⟨#[10]⟩ : ByteArray)).size) = False := eq_false (Nat.not_lt.2 c44)
                 try (have c44b2z := c44b2; simp only [ByteArray.size_append, szlit, List.size_toArray, List.length_cons, List.length_nil, Nat.zero_add, Nat.reduceAdd] at c44b2z)
                 try (have c44b2z := c44b2; simp only [ByteArray.size_append, szlit, List.size_toArray, List.length_cons, List.length_nil, Nat.zero_add, Nat.reduceAdd] at c44b2z)
                 have H' := Aside0.mk H
                 clear H
                 have p442 : 0 ≤ (x14_3 : Int) := of_decide_eq_true (by first | (with_reducible assumption) | assumption)
                 have q442 : x14_3 < (t433.length : Int) := of_decide_eq_true (by first | (with_reducible assumption) | assumption)
                 obtain ⟨ad442, e442, hx442_0⟩ := Kd.at_string (Kd.R_reads' HO_9.out).2.2 x14_3 p442 q442
                 cases e442
                 replace p442 := eq_true p442
                 replace q442 := eq_true q442
                 go_wp2
                 go_roundg k3
                 case measure => have := HJ6.out; have := HJ17.out; have := HK3.out; omega
                 case rel => exact ⟨(x13_3 ++ ((rdOf ByteArray.empty t433 x14_3) ++ (⟨#[10]⟩ : ByteArray))), (wrap64 (x14_3 + 1)), (by first | rfl | (simp; done) | (simp [*]; done)), (by first | rfl | (simp; done) | (simp [*]; done)), H', ⟨by have := HJ6.out; have := HJ17.out; have := HK3.out; omega⟩, ⟨by (with_reducible repeat (first | apply Kd.R_alloc | apply Kd.R_drewN | apply Kd.R_drew)); exact HO_9.out⟩, ⟨by (with_reducible repeat (first | apply Kd.R_alloc | apply Kd.R_drewN | apply Kd.R_drew)); exact HO_11.out⟩, ⟨by (with_reducible repeat (first | refine blk_drewN ?_ _ | refine blk_drew ?_ | refine blk_alloc ?_ _)); exact BK427.out⟩, ⟨by repeat (first | (with_reducible first | exact HB.out | apply below_alloc | apply pw_below_drewN | apply below_drew1 | refine below_set ?_ GE427.out) | exact HB.out)⟩⟩
                ·
                 rw [if_neg c44] at H
                 exact absurd H (by simp)
               ·
                rw [if_neg c43] at H
                exact absurd H (by simp)
              ·
               rw [if_neg c42] at H
               exact absurd H (by simp)
             ·
              rw [if_neg c41] at H
              have c41b0 : decide (x14_3 < (t433.length : Int)) = false := decide_eq_false c41
              clear c41
              have H' := Aside0.mk H
              clear H
              go_wp2
              go_roundg k3
              case measure => have := HJ6.out; have := HJ17.out; have := HK3.out; omega
              case rel => exact ⟨(x13_3), (wrap64 (x14_3 + 1)), (by first | rfl | (simp; done) | (simp [*]; done)), (by first | rfl | (simp; done) | (simp [*]; done)), H', ⟨by have := HJ6.out; have := HJ17.out; have := HK3.out; omega⟩, ⟨by (with_reducible repeat (first | apply Kd.R_alloc | apply Kd.R_drewN | apply Kd.R_drew)); exact HO_9.out⟩, ⟨by (with_reducible repeat (first | apply Kd.R_alloc | apply Kd.R_drewN | apply Kd.R_drew)); exact HO_11.out⟩, ⟨by (with_reducible repeat (first | refine blk_drewN ?_ _ | refine blk_drew ?_ | refine blk_alloc ?_ _)); exact BK427.out⟩, ⟨by repeat (first | (with_reducible first | exact HB.out | apply below_alloc | apply pw_below_drewN | apply below_drew1 | refine below_set ?_ GE427.out) | exact HB.out)⟩⟩
           ·
            rw [if_neg c27] at H
            have c27b0 : decide (x14_3 ≤ (t433.length : Int)) = false := decide_eq_false c27
            clear c27
            replace H := Option.bind_eq_some_iff.mp H
            obtain ⟨⟨t443, t444, t447, t450, t451⟩, A450, H⟩ := H
            replace H : (if (Int.tmod (wrap64 (a1)) (wrap64 ((t433.length : Int) + 1))) = 0 then (if (y437.length : Int) = 0 then (none) else (if 0 ≤ (Int.tmod (wrap64 (a2)) (y437.length : Int)) then (if (Int.tmod (wrap64 (a2)) (y437.length : Int)) < (y437.length : Int) then (remontoirlaw17_DefWrong.j3 k3 t430 t433 (Int.tmod (wrap64 (a1)) (wrap64 ((t433.length : Int) + 1))) t450 t451 ((rdOf ByteArray.empty y437 (Int.tmod (wrap64 (a2)) (y437.length : Int))).toList == ([112, 114, 111, 99, 101, 115, 115, 32, 98] : List UInt8)) a0_0 l0_1 l0_2 t443 t444 t447) else (none)) else (none))) else (remontoirlaw17_DefWrong.j3 k3 t430 t433 (Int.tmod (wrap64 (a1)) (wrap64 ((t433.length : Int) + 1))) t450 t451 false a0_0 l0_1 l0_2 t443 t444 t447)) = some r := H
            have A45 := Aside0.mk A450
            clear A450
            have HC46 := Aside0.mk H
            clear H
            go_upto_region 20 with (first | ((with_reducible refine gate_callee (f := 12) rfl ?_); refine goesL_ (some 87) rfl rfl Tryd.func12 (by kernel_rfl) rfl #[.string x13_3] rfl (by (try simp only [List.map_toArray, List.map_cons, List.map_nil]); first | done | rfl | (simp only [List.length_drop, List.length_take]; rfl)) ?_; (with_reducible refine (def_Parse.calls k3 x13_3 t443 t444 t447 t450 t451 _ A45.out).mono ?_); rintro e w47 ⟨v445, v448, rfl, ho0, ho1, hb⟩; refine ⟨_, rfl, ?_⟩; have n0_ := Aside0.mk (Kd.R_below (by (with_reducible repeat (first | apply Kd.R_alloc | apply Kd.R_drewN | apply Kd.R_drew)); exact HO_9.out) hb); have n1_ := Aside0.mk (Kd.R_below (by (with_reducible repeat (first | apply Kd.R_alloc | apply Kd.R_drewN | apply Kd.R_drew)); exact HO_11.out) hb); have n2_ := Aside0.mk (Kd.R_lower ho0 (below_size (by repeat (first | (with_reducible first | exact HB.out | apply below_alloc | apply pw_below_drewN | apply below_drew1 | refine below_set ?_ GE427.out) | exact HB.out)))); have n3_ := Aside0.mk (Kd.R_lower ho1 (below_size (by repeat (first | (with_reducible first | exact HB.out | apply below_alloc | apply pw_below_drewN | apply below_drew1 | refine below_set ?_ GE427.out) | exact HB.out)))); have n4_ := Aside0.mk (blk_below (g := gb427) (o := .cells #[.string a0_0, .slice A0_1 l0_1.length c0_1, .slice A0_2 l0_2.length c0_2] 25 (0, 0)) (by (with_reducible repeat (first | refine blk_drewN ?_ _ | refine blk_drew ?_ | refine blk_alloc ?_ _)); exact BK427.out) hb); have n5_ := Aside0.mk (below_step (by repeat (first | (with_reducible first | exact HB.out | apply below_alloc | apply pw_below_drewN | apply below_drew1 | refine below_set ?_ GE427.out) | exact HB.out)) hb); clear HO_9; clear HO_11; clear BK427; clear HB; have HO_9 := n0_; have HO_11 := n1_; have HO446 := n2_; have HO449 := n3_; have BK427 := n4_; have HB := n5_; clear n0_ n1_ n2_ n3_ n4_ n5_; (try clear hb); (try clear hb2); (try clear hk); (try clear hi); (try clear ho0); (try clear ho1)) | ((with_reducible refine gate_dst (N := 15) rfl ?_); (try (refine gate_guard (by rfl) ?_; dsimp only)); refine box_event ?hg (N := 15) ?hd (cs := #[.string (⟨#[]⟩ : ByteArray), .slice none 0 0, .slice none 0 0]) (t := 25) ?hr ?_; (case hd => rfl); (case hg => rfl); (case hr => first | (go_simp; done) | (go_simp; rfl)); intro gb452 hg w48 hbox hb; have n0_ := Aside0.mk (Kd.R_below (by (with_reducible repeat (first | apply Kd.R_alloc | apply Kd.R_drewN | apply Kd.R_drew)); exact HO_9.out) hb); have n1_ := Aside0.mk (Kd.R_below (by (with_reducible repeat (first | apply Kd.R_alloc | apply Kd.R_drewN | apply Kd.R_drew)); exact HO_11.out) hb); have n2_ := Aside0.mk (Kd.R_below (by (with_reducible repeat (first | apply Kd.R_alloc | apply Kd.R_drewN | apply Kd.R_drew)); exact HO446.out) hb); have n3_ := Aside0.mk (Kd.R_below (by (with_reducible repeat (first | apply Kd.R_alloc | apply Kd.R_drewN | apply Kd.R_drew)); exact HO449.out) hb); have n4_ := Aside0.mk (blk_below (g := gb427) (o := .cells #[.string a0_0, .slice A0_1 l0_1.length c0_1, .slice A0_2 l0_2.length c0_2] 25 (0, 0)) (by (with_reducible repeat (first | refine blk_drewN ?_ _ | refine blk_drew ?_ | refine blk_alloc ?_ _)); exact BK427.out) hb); have n5_ := Aside0.mk (below_step (by repeat (first | (with_reducible first | exact HB.out | apply below_alloc | apply pw_below_drewN | apply below_drew1 | refine below_set ?_ GE427.out) | exact HB.out)) hb); have n6_ := Aside0.mk (hbox); have n7_ := Aside0.mk ((by rw [hg]; exact (below_size (by repeat (first | (with_reducible first | exact HB.out | apply below_alloc | apply pw_below_drewN | apply below_drew1 | refine below_set ?_ GE427.out) | exact HB.out))) : w.heap.size ≤ gb452)); have n8_ := Aside0.mk ((by rw [hg]; exact (below_size (by repeat (first | (with_reducible first | exact HB.out | apply below_alloc | apply pw_below_drewN | apply below_drew1 | refine below_set ?_ GE427.out) | exact HB.out))) : w.heap.size ≤ gb452)); have n9_ := Aside0.mk ((by rw [hg]; exact Nat.ne_of_lt (blk_lt (g := gb427) (o := .cells #[.string a0_0, .slice A0_1 l0_1.length c0_1, .slice A0_2 l0_2.length c0_2] 25 (0, 0)) (by (with_reducible repeat (first | refine blk_drewN ?_ _ | refine blk_drew ?_ | refine blk_alloc ?_ _)); exact BK427.out)) : gb427 ≠ gb452)); have n10_ := Aside0.mk ((by rw [hg]; exact Nat.ne_of_gt (blk_lt (g := gb427) (o := .cells #[.string a0_0, .slice A0_1 l0_1.length c0_1, .slice A0_2 l0_2.length c0_2] 25 (0, 0)) (by (with_reducible repeat (first | refine blk_drewN ?_ _ | refine blk_drew ?_ | refine blk_alloc ?_ _)); exact BK427.out)) : gb452 ≠ gb427)); clear HO_9; clear HO_11; clear HO446; clear HO449; clear BK427; clear HB; have HO_9 := n0_; have HO_11 := n1_; have HO446 := n2_; have HO449 := n3_; have BK427 := n4_; have HB := n5_; have BK452 := n6_; have GW452 := n7_; have GE452 := n8_; have NB427_452 := n9_; have NB452_427 := n10_; clear n0_ n1_ n2_ n3_ n4_ n5_ n6_ n7_ n8_ n9_ n10_; clear hb hbox hg; have hnb49 := NB452_427.out; have hnc49 := NB427_452.out; have hcz50_0 : w48.cell? ⟨gb452, 0, none⟩ = some (.string (⟨#[]⟩ : ByteArray)) := (blk_cell BK452.out 0).trans rfl; have hcz50_1 : w48.cell? ⟨gb452, 1, none⟩ = some (.slice none 0 0) := (blk_cell BK452.out 1).trans rfl; have hcz50_2 : w48.cell? ⟨gb452, 2, none⟩ = some (.slice none 0 0) := (blk_cell BK452.out 2).trans rfl; have hfz50_0 := blk_frozen BK452.out 0; have hfz50_1 := blk_frozen BK452.out 1; have hfz50_2 := blk_frozen BK452.out 2; obtain ⟨Ao51, co51, eo51⟩ := Kd.R_slice HO446.out; subst eo51; obtain ⟨Ao52, co52, eo52⟩ := Kd.R_slice HO449.out; subst eo52))
            (try simp only [Act.put, List.setIfInBounds_toArray, List.set_cons_zero, List.set_cons_succ])
            go_cut [103] (fun v103 wc => ∃ (kq : Nat) (x103_45 : Bool), v103 = .bool x103_45 ∧ Aside0 (remontoirlaw17_DefWrong.j3 kq t430 t433 (Int.tmod (wrap64 (a1)) (wrap64 ((t433.length : Int) + 1))) t450 t451 x103_45 a0_0 l0_1 l0_2 t443 t444 t447 = some r) ∧ Aside0 (kq ≤ k3) ∧ Aside0 (Kd.R Kd.string 9 wc w.heap.size (fun _ => True) (.slice Ao26 t433.length co26) t433) ∧ Aside0 (Kd.R k40 40 wc w.heap.size (fun _ => True) (.slice Ao51 t444.length co51) t444) ∧ Aside0 (Kd.R k42 42 wc w.heap.size (fun _ => True) (.slice Ao52 t447.length co52) t447) ∧ Aside0 (wc.heap[gb427]? = some (.cells #[.string a0_0, (.slice A0_1 l0_1.length c0_1), (.slice A0_2 l0_2.length c0_2)] 25 (0, 0))) ∧ Aside0 (wc.heap[gb452]? = some (.cells #[.string t443, (.slice Ao51 t444.length co51), (.slice Ao52 t447.length co52)] 25 (0, 0))) ∧ Aside0 (Below w.heap.size w wc))
            case first =>
             have H := HC46.out
             clear HC46
             by_cases c53 : (Int.tmod (wrap64 (a1)) (wrap64 ((t433.length : Int) + 1))) = 0
             ·
              rw [if_pos c53] at H
              have c53b0 : ((Int.tmod (wrap64 (a1)) (wrap64 ((t433.length : Int) + 1))) == 0) = true := beq_iff_eq.mpr c53
              have c53b1 : ((Int.tmod (wrap64 (a1)) (wrap64 ((t433.length : Int) + 1))) != 0) = false := bne_eq_false_iff_eq.mpr c53
              clear c53
              (first | rw [c53b0] | (simp only [i64_w, i32_w]; rw [c53b0]) | skip)
              by_cases c54 : (y437.length : Int) = 0
              ·
               rw [if_pos c54] at H
               exact absurd H (by simp)
              ·
               rw [if_neg c54] at H
               have c54b0 : ((y437.length : Int) == 0) = false := beq_eq_false_iff_ne.mpr c54
               have c54b1 : ((y437.length : Int) != 0) = true := bne_iff_ne.mpr c54
               have c54b2 : ¬ (y437 = []) := fun h_ => c54 (by rw [h_]; rfl)
               obtain ⟨ji55, hji55⟩ : ∃ j_ : Int, (Int.tmod (wrap64 (a2)) (y437.length : Int)) = j_ := ⟨_, rfl⟩
               replace H : (if 0 ≤ (ji55) then (if (ji55) < (y437.length : Int) then (remontoirlaw17_DefWrong.j3 k3 t430 t433 (Int.tmod (wrap64 (a1)) (wrap64 ((t433.length : Int) + 1))) t450 t451 ((rdOf ByteArray.empty y437 (ji55)).toList == ([112, 114, 111, 99, 101, 115, 115, 32, 98] : List UInt8)) a0_0 l0_1 l0_2 t443 t444 t447) else (none)) else (none)) = some r := by first | (rw [hji55] at H; exact H) | (simp only [hji55] at H ⊢; exact H)
               by_cases c56 : 0 ≤ (ji55)
               ·
                rw [if_pos c56] at H
                have c56b0 : decide (0 ≤ (ji55)) = true := decide_eq_true c56
                clear c56
                by_cases c57 : (ji55) < (y437.length : Int)
                ·
                 rw [if_pos c57] at H
                 have c57b0 : decide ((ji55) < (y437.length : Int)) = true := decide_eq_true c57
                 clear c57
                 have H' := Aside0.mk H
                 clear H
                 obtain ⟨Ao58, co58, eo58⟩ := Kd.R_slice HO_11.out
                 subst eo58
                 have p453 : 0 ≤ ((ji55) : Int) := of_decide_eq_true (by first | (with_reducible assumption) | assumption)
                 have q453 : (ji55) < (y437.length : Int) := of_decide_eq_true (by first | (with_reducible assumption) | assumption)
                 obtain ⟨ad453, e453, hx453_0⟩ := Kd.at_string (Kd.R_reads' HO_11.out).2.2 (ji55) p453 q453
                 cases e453
                 have hn453_0 : ad453.block ≠ gb452 := Kd.own_blk (Kd.R_ne HO_11.out BK452.out (by decide))
                 have hn453_1 : ad453.block ≠ gb452 := Kd.own_blk (Kd.R_ne HO_11.out BK452.out (by decide))
                 have hn453_2 : ad453.block ≠ gb452 := Kd.own_blk (Kd.R_ne HO_11.out BK452.out (by decide))
                 replace hx453_0 := (cell_far (p := ⟨gb452, 0, none⟩) (by first | (rw [add_block]; exact hn453_0) | (show (Addr.add _ _).block ≠ _; rw [add_block]; exact hn453_0) | exact hn453_0) (.string t443)).trans hx453_0
                 replace hx453_0 := (cell_far (p := ⟨gb452, 1, none⟩) (by first | (rw [add_block]; exact hn453_1) | (show (Addr.add _ _).block ≠ _; rw [add_block]; exact hn453_1) | exact hn453_1) (.slice Ao51 t444.length co51)).trans hx453_0
                 replace hx453_0 := (cell_far (p := ⟨gb452, 2, none⟩) (by first | (rw [add_block]; exact hn453_2) | (show (Addr.add _ _).block ≠ _; rw [add_block]; exact hn453_2) | exact hn453_2) (.slice Ao52 t447.length co52)).trans hx453_0
                 clear hn453_0
                 clear hn453_1
                 clear hn453_2
                 replace p453 := eq_true p453
                 replace q453 := eq_true q453
                 go_wp2
                 go_meet
                 case rel => exact ⟨_, (((rdOf ByteArray.empty y437 (ji55)).toList == ([112, 114, 111, 99, 101, 115, 115, 32, 98] : List UInt8))), (by first | rfl | (simp; done) | (simp only [← hji55] <;> (first | rfl | simp)) | (simp [*]; done)), H', ⟨by have := HJ6.out; have := HJ17.out; have := HK3.out; first | omega | exact Nat.le_refl _⟩, ⟨by (with_reducible repeat (first | apply Kd.R_alloc | apply Kd.R_drewN | apply Kd.R_drew)); exact Kd.R_mono (Kd.R_far (p := ⟨gb452, 2, none⟩) (Kd.R_far (p := ⟨gb452, 1, none⟩) (Kd.R_far (p := ⟨gb452, 0, none⟩) (Kd.R_types HO_9.out BK452.out (by decide)) (fun _ hk => hk.2) (.string t443)) (fun _ hk => hk.2) (.slice Ao51 t444.length co51)) (fun _ hk => hk.2) (.slice Ao52 t447.length co52)) (fun _ hk => trivial)⟩, ⟨by (with_reducible repeat (first | apply Kd.R_alloc | apply Kd.R_drewN | apply Kd.R_drew)); exact Kd.R_mono (Kd.R_far (p := ⟨gb452, 2, none⟩) (Kd.R_far (p := ⟨gb452, 1, none⟩) (Kd.R_far (p := ⟨gb452, 0, none⟩) (Kd.R_types HO446.out BK452.out (by decide)) (fun _ hk => hk.2) (.string t443)) (fun _ hk => hk.2) (.slice Ao51 t444.length co51)) (fun _ hk => hk.2) (.slice Ao52 t447.length co52)) (fun _ hk => trivial)⟩, ⟨by (with_reducible repeat (first | apply Kd.R_alloc | apply Kd.R_drewN | apply Kd.R_drew)); exact Kd.R_mono (Kd.R_far (p := ⟨gb452, 2, none⟩) (Kd.R_far (p := ⟨gb452, 1, none⟩) (Kd.R_far (p := ⟨gb452, 0, none⟩) (Kd.R_types HO449.out BK452.out (by decide)) (fun _ hk => hk.2) (.string t443)) (fun _ hk => hk.2) (.slice Ao51 t444.length co51)) (fun _ hk => hk.2) (.slice Ao52 t447.length co52)) (fun _ hk => trivial)⟩, ⟨by (with_reducible repeat (first | refine blk_drewN ?_ _ | refine blk_drew ?_ | refine blk_alloc ?_ _)); refine blk_far ?_ NB427_452.out _; (with_reducible repeat (first | refine blk_drewN ?_ _ | refine blk_drew ?_ | refine blk_alloc ?_ _)); refine blk_far ?_ NB427_452.out _; (with_reducible repeat (first | refine blk_drewN ?_ _ | refine blk_drew ?_ | refine blk_alloc ?_ _)); refine blk_far ?_ NB427_452.out _; (with_reducible repeat (first | refine blk_drewN ?_ _ | refine blk_drew ?_ | refine blk_alloc ?_ _)); exact BK427.out⟩, ⟨by (with_reducible repeat (first | refine blk_drewN ?_ _ | refine blk_drew ?_ | refine blk_alloc ?_ _)); refine blk_put (cs := #[.string t443, .slice Ao51 t444.length co51, .slice none 0 0]) ?_ 2 _ rfl; (with_reducible repeat (first | refine blk_drewN ?_ _ | refine blk_drew ?_ | refine blk_alloc ?_ _)); refine blk_put (cs := #[.string t443, .slice none 0 0, .slice none 0 0]) ?_ 1 _ rfl; (with_reducible repeat (first | refine blk_drewN ?_ _ | refine blk_drew ?_ | refine blk_alloc ?_ _)); refine blk_put (cs := #[.string (⟨#[]⟩ : ByteArray), .slice none 0 0, .slice none 0 0]) ?_ 0 _ rfl; (with_reducible repeat (first | refine blk_drewN ?_ _ | refine blk_drew ?_ | refine blk_alloc ?_ _)); exact BK452.out⟩, ⟨by repeat (first | (with_reducible first | exact HB.out | apply below_alloc | apply pw_below_drewN | apply below_drew1 | refine below_set ?_ GE427.out | refine below_set ?_ GE452.out) | exact HB.out)⟩⟩
                ·
                 rw [if_neg c57] at H
                 exact absurd H (by simp)
               ·
                rw [if_neg c56] at H
                exact absurd H (by simp)
             ·
              rw [if_neg c53] at H
              have c53b0 : ((Int.tmod (wrap64 (a1)) (wrap64 ((t433.length : Int) + 1))) == 0) = false := beq_eq_false_iff_ne.mpr c53
              have c53b1 : ((Int.tmod (wrap64 (a1)) (wrap64 ((t433.length : Int) + 1))) != 0) = true := bne_iff_ne.mpr c53
              (first | rw [c53b0] | (simp only [i64_w, i32_w]; rw [c53b0]) | skip)
              have H' := Aside0.mk H
              clear H
              go_wp2
              go_meet
              case rel => exact ⟨_, (false), (by first | rfl | (simp; done) | (simp [*]; done)), H', ⟨by have := HJ6.out; have := HJ17.out; have := HK3.out; first | omega | exact Nat.le_refl _⟩, ⟨by (with_reducible repeat (first | apply Kd.R_alloc | apply Kd.R_drewN | apply Kd.R_drew)); exact Kd.R_mono (Kd.R_far (p := ⟨gb452, 2, none⟩) (Kd.R_far (p := ⟨gb452, 1, none⟩) (Kd.R_far (p := ⟨gb452, 0, none⟩) (Kd.R_types HO_9.out BK452.out (by decide)) (fun _ hk => hk.2) (.string t443)) (fun _ hk => hk.2) (.slice Ao51 t444.length co51)) (fun _ hk => hk.2) (.slice Ao52 t447.length co52)) (fun _ hk => trivial)⟩, ⟨by (with_reducible repeat (first | apply Kd.R_alloc | apply Kd.R_drewN | apply Kd.R_drew)); exact Kd.R_mono (Kd.R_far (p := ⟨gb452, 2, none⟩) (Kd.R_far (p := ⟨gb452, 1, none⟩) (Kd.R_far (p := ⟨gb452, 0, none⟩) (Kd.R_types HO446.out BK452.out (by decide)) (fun _ hk => hk.2) (.string t443)) (fun _ hk => hk.2) (.slice Ao51 t444.length co51)) (fun _ hk => hk.2) (.slice Ao52 t447.length co52)) (fun _ hk => trivial)⟩, ⟨by (with_reducible repeat (first | apply Kd.R_alloc | apply Kd.R_drewN | apply Kd.R_drew)); exact Kd.R_mono (Kd.R_far (p := ⟨gb452, 2, none⟩) (Kd.R_far (p := ⟨gb452, 1, none⟩) (Kd.R_far (p := ⟨gb452, 0, none⟩) (Kd.R_types HO449.out BK452.out (by decide)) (fun _ hk => hk.2) (.string t443)) (fun _ hk => hk.2) (.slice Ao51 t444.length co51)) (fun _ hk => hk.2) (.slice Ao52 t447.length co52)) (fun _ hk => trivial)⟩, ⟨by (with_reducible repeat (first | refine blk_drewN ?_ _ | refine blk_drew ?_ | refine blk_alloc ?_ _)); refine blk_far ?_ NB427_452.out _; (with_reducible repeat (first | refine blk_drewN ?_ _ | refine blk_drew ?_ | refine blk_alloc ?_ _)); refine blk_far ?_ NB427_452.out _; (with_reducible repeat (first | refine blk_drewN ?_ _ | refine blk_drew ?_ | refine blk_alloc ?_ _)); refine blk_far ?_ NB427_452.out _; (with_reducible repeat (first | refine blk_drewN ?_ _ | refine blk_drew ?_ | refine blk_alloc ?_ _)); exact BK427.out⟩, ⟨by (with_reducible repeat (first | refine blk_drewN ?_ _ | refine blk_drew ?_ | refine blk_alloc ?_ _)); refine blk_put (cs := #[.string t443, .slice Ao51 t444.length co51, .slice none 0 0]) ?_ 2 _ rfl; (with_reducible repeat (first | refine blk_drewN ?_ _ | refine blk_drew ?_ | refine blk_alloc ?_ _)); refine blk_put (cs := #[.string t443, .slice none 0 0, .slice none 0 0]) ?_ 1 _ rfl; (with_reducible repeat (first | refine blk_drewN ?_ _ | refine blk_drew ?_ | refine blk_alloc ?_ _)); refine blk_put (cs := #[.string (⟨#[]⟩ : ByteArray), .slice none 0 0, .slice none 0 0]) ?_ 0 _ rfl; (with_reducible repeat (first | refine blk_drewN ?_ _ | refine blk_drew ?_ | refine blk_alloc ?_ _)); exact BK452.out⟩, ⟨by repeat (first | (with_reducible first | exact HB.out | apply below_alloc | apply pw_below_drewN | apply below_drew1 | refine below_set ?_ GE427.out | refine below_set ?_ GE452.out) | exact HB.out)⟩⟩
            case rest =>
             clear HC46
             try clear c1
             try clear c2
             try clear p2
             try clear c3
             try clear c4
             try clear p4
             try clear q4
             try clear hx4
             try clear c5
             try clear c6
             try clear p6
             try clear c8
             try clear c9
             try clear c10
             try clear c12
             try clear c13
             try clear c14
             try clear c20
             try clear c20b0
             try clear c20b1
             try clear c22
             try clear c23
             try clear c23b0
             try clear c23b1
             try clear c27
             try clear c27b0
             try clear c28
             try clear c28b0
             try clear c28b1
             try clear c29
             try clear c29b0
             try clear c29b1
             try clear c29b2
             try clear c31
             try clear c31b0
             try clear c32
             try clear c32b0
             try clear c33
             try clear c33b0
             try clear c33b1
             try clear c33b2
             try clear c34
             try clear c34b0
             try clear c34b1
             try clear c34b2
             try clear c35
             try clear c35b0
             try clear c36
             try clear c36b0
             try clear c37
             try clear c37b0
             try clear c37b1
             try clear c37b2
             try clear c38
             try clear c38b0
             try clear c38b1
             try clear c38b2
             try clear c41
             try clear c41b0
             try clear c42
             try clear c42b0
             try clear c43
             try clear c43b0
             try clear c43b1
             try clear c43b2
             try clear c44
             try clear c44b0
             try clear c44b1
             try clear c44b2
             try clear p44
             try clear q44
             try clear hx44
             try clear p45
             try clear q45
             try clear hx45
             try clear c49
             try clear c53
             try clear c53b0
             try clear c53b1
             try clear c54
             try clear c54b0
             try clear c54b1
             try clear c54b2
             try clear c56
             try clear c56b0
             try clear c57
             try clear c57b0
             try clear hcz11_0
             try clear hcz11_1
             try clear hcz11_2
             try clear hcz50_0
             try clear hcz50_1
             try clear hcz50_2
             try clear hcz9_0
             try clear hcz9_1
             try clear hcz9_2
             try clear hfz11_0
             try clear hfz11_1
             try clear hfz11_2
             try clear hfz50_0
             try clear hfz50_1
             try clear hfz50_2
             try clear hfz9_0
             try clear hfz9_1
             try clear hfz9_2
             try clear hx440_0
             try clear hx441_0
             try clear hx442_0
             try clear hx453_0
             try clear p2
             try clear p440
             try clear p441
             try clear p442
             try clear p453
             try clear p6
             try clear q440
             try clear q441
             try clear q442
             try clear q453
             obtain ⟨kq, x103_45, rfl, HA, HJ45, HO_9, HO_453001, HO_453002, BK427, BK452, HB⟩ := hcut
             cases kq with
             | zero => exact absurd HA.out (by simp [remontoirlaw17_DefWrong.j3])
             | succ kj45 =>
              have H := HA.out
              clear HA
              simp only [remontoirlaw17_DefWrong.j3] at H
              by_cases c59 : x103_45 = true
              ·
               subst c59
               have H1 : (if t450 = 2 then (if t451 = 2 then ((remontoirlaw17_wakes.f kj45).bind fun t454 => (some t454)) else (some false)) else (some false)) = some r := by rw [if_pos rfl] at H; exact H
               clear H
               have H := H1
               clear H1
               by_cases c60 : t450 = 2
               ·
                rw [if_pos c60] at H
                have c60b0 : (t450 == 2) = true := beq_iff_eq.mpr c60
                have c60b1 : (t450 != 2) = false := bne_eq_false_iff_eq.mpr c60
                clear c60
                by_cases c61 : t451 = 2
                ·
                 rw [if_pos c61] at H
                 have c61b0 : (t451 == 2) = true := beq_iff_eq.mpr c61
                 have c61b1 : (t451 != 2) = false := bne_eq_false_iff_eq.mpr c61
                 clear c61
                 replace H := Option.bind_eq_some_iff.mp H
                 obtain ⟨t454, A620, H⟩ := H
                 replace H : (some t454) = some r := H
                 have A62 := Aside0.mk A620
                 clear A620
                 obtain rfl := Option.some.inj H
                 go_wp2_with (first | (go_at_call 9; (with_reducible refine (remontoirlaw17_wakes.calls kj45  t454 _ (Tab.below hTab (by repeat (first | exact HB.out | apply below_alloc | apply pw_below_drewN | apply below_drew1 | (refine below_set ?_ (Aside0.out ?_) <;> (first | assumption | skip)))))  A62.out).mono ?_); rintro e w63 ⟨rfl, hb⟩; have n0_ := Aside0.mk (Kd.R_below (by (with_reducible repeat (first | apply Kd.R_alloc | apply Kd.R_drewN | apply Kd.R_drew)); exact HO_9.out) hb); have n1_ := Aside0.mk (Kd.R_below (by (with_reducible repeat (first | apply Kd.R_alloc | apply Kd.R_drewN | apply Kd.R_drew)); exact HO_453001.out) hb); have n2_ := Aside0.mk (Kd.R_below (by (with_reducible repeat (first | apply Kd.R_alloc | apply Kd.R_drewN | apply Kd.R_drew)); exact HO_453002.out) hb); have n3_ := Aside0.mk (blk_below (g := gb427) (o := .cells #[.string a0_0, .slice A0_1 l0_1.length c0_1, .slice A0_2 l0_2.length c0_2] 25 (0, 0)) (by (with_reducible repeat (first | refine blk_drewN ?_ _ | refine blk_drew ?_ | refine blk_alloc ?_ _)); exact BK427.out) hb); have n4_ := Aside0.mk (blk_below (g := gb452) (o := .cells #[.string t443, .slice Ao51 t444.length co51, .slice Ao52 t447.length co52] 25 (0, 0)) (by (with_reducible repeat (first | refine blk_drewN ?_ _ | refine blk_drew ?_ | refine blk_alloc ?_ _)); exact BK452.out) hb); have n5_ := Aside0.mk (below_step (by repeat (first | (with_reducible first | exact HB.out | apply below_alloc | apply pw_below_drewN | apply below_drew1 | refine below_set ?_ GE427.out | refine below_set ?_ GE452.out) | exact HB.out)) hb); clear HO_9; clear HO_453001; clear HO_453002; clear BK427; clear BK452; clear HB; have HO_9 := n0_; have HO_453001 := n1_; have HO_453002 := n2_; have BK427 := n3_; have BK452 := n4_; have HB := n5_; clear n0_ n1_ n2_ n3_ n4_ n5_; (try clear hb); (try clear hb2); (try clear hk); (try clear hi)))
                 go_ret
                 exact ⟨by first | rfl | (simp [errW_none, errW_some] <;> rfl) | (simp [*, errW_none, errW_some] <;> rfl) | (simp [errW_none, errW_some]; exact isEmpty_ne _), by repeat (first | (with_reducible first | exact HB.out | apply below_alloc | apply pw_below_drewN | apply below_drew1 | refine below_set ?_ GE427.out | refine below_set ?_ GE452.out) | exact HB.out)⟩
                ·
                 rw [if_neg c61] at H
                 exact absurd (Option.some.inj H) (by rw [hr_]; decide)
               ·
                rw [if_neg c60] at H
                exact absurd (Option.some.inj H) (by rw [hr_]; decide)
              ·
               replace c59 := Bool.eq_false_iff.mpr c59
               subst c59
               have H1 : (if t450 = (wrap64 ((Int.tmod (wrap64 (a1)) (wrap64 ((t433.length : Int) + 1))) + 1)) then (if t451 = 2 then (if (t444.length : Int) = 0 then (if (t447.length : Int) = 0 then (remontoirlaw17_DefWrong.j4 kj45 t430 t433 (t443.toList != ([] : List UInt8)) a0_0 l0_1 l0_2) else (remontoirlaw17_DefWrong.j4 kj45 t430 t433 true a0_0 l0_1 l0_2)) else (remontoirlaw17_DefWrong.j4 kj45 t430 t433 true a0_0 l0_1 l0_2)) else (remontoirlaw17_DefWrong.j4 kj45 t430 t433 true a0_0 l0_1 l0_2)) else (remontoirlaw17_DefWrong.j4 kj45 t430 t433 true a0_0 l0_1 l0_2)) = some r := by rw [if_neg (show ¬ (false = true) by decide)] at H; exact H
               clear H
               have H := H1
               clear H1
               have HC64 := Aside0.mk H
               clear H
               go_upto_region 22 with (fail)
               go_cut [137] (fun v137 wc => ∃ (kq : Nat) (x137_63 : Bool), v137 = .bool x137_63 ∧ Aside0 (remontoirlaw17_DefWrong.j4 kq t430 t433 x137_63 a0_0 l0_1 l0_2 = some r) ∧ Aside0 (kq ≤ kj45) ∧ Aside0 (Kd.R Kd.string 9 wc w.heap.size (fun _ => True) (.slice Ao26 t433.length co26) t433) ∧ Aside0 (Kd.R k40 40 wc w.heap.size (fun _ => True) (.slice Ao51 t444.length co51) t444) ∧ Aside0 (Kd.R k42 42 wc w.heap.size (fun _ => True) (.slice Ao52 t447.length co52) t447) ∧ Aside0 (wc.heap[gb427]? = some (.cells #[.string a0_0, (.slice A0_1 l0_1.length c0_1), (.slice A0_2 l0_2.length c0_2)] 25 (0, 0))) ∧ Aside0 (wc.heap[gb452]? = some (.cells #[.string t443, (.slice Ao51 t444.length co51), (.slice Ao52 t447.length co52)] 25 (0, 0))) ∧ Aside0 (Below w.heap.size w wc))
               case first =>
                have H := HC64.out
                clear HC64
                by_cases c65 : t450 = (wrap64 ((Int.tmod (wrap64 (a1)) (wrap64 ((t433.length : Int) + 1))) + 1))
                ·
                 rw [if_pos c65] at H
                 have c65b0 : (t450 == (wrap64 ((Int.tmod (wrap64 (a1)) (wrap64 ((t433.length : Int) + 1))) + 1))) = true := beq_iff_eq.mpr c65
                 have c65b1 : (t450 != (wrap64 ((Int.tmod (wrap64 (a1)) (wrap64 ((t433.length : Int) + 1))) + 1))) = false := bne_eq_false_iff_eq.mpr c65
                 clear c65
                 (first | rw [c65b0] | (simp only [i64_w, i32_w]; rw [c65b0]) | skip)
                 by_cases c66 : t451 = 2
                 ·
                  rw [if_pos c66] at H
                  have c66b0 : (t451 == 2) = true := beq_iff_eq.mpr c66
                  have c66b1 : (t451 != 2) = false := bne_eq_false_iff_eq.mpr c66
                  clear c66
                  by_cases c67 : (t444.length : Int) = 0
                  ·
                   rw [if_pos c67] at H
                   have c67b0 : ((t444.length : Int) == 0) = true := beq_iff_eq.mpr c67
                   have c67b1 : ((t444.length : Int) != 0) = false := bne_eq_false_iff_eq.mpr c67
                   clear c67
                   by_cases c68 : (t447.length : Int) = 0
                   ·
                    rw [if_pos c68] at H
                    have c68b0 : ((t447.length : Int) == 0) = true := beq_iff_eq.mpr c68
                    have c68b1 : ((t447.length : Int) != 0) = false := bne_eq_false_iff_eq.mpr c68
                    clear c68
                    have H' := Aside0.mk H
                    clear H
                    have hnb69 := NB452_427.out
                    have hnc69 := NB427_452.out
                    have hcz70_0 : wc.cell? ⟨gb452, 0, none⟩ = some (.string t443) := (blk_cell BK452.out 0).trans rfl
                    have hcz70_1 : wc.cell? ⟨gb452, 1, none⟩ = some (.slice Ao51 t444.length co51) := (blk_cell BK452.out 1).trans rfl
                    have hcz70_2 : wc.cell? ⟨gb452, 2, none⟩ = some (.slice Ao52 t447.length co52) := (blk_cell BK452.out 2).trans rfl
                    have hfz70_0 := blk_frozen BK452.out 0
                    have hfz70_1 := blk_frozen BK452.out 1
                    have hfz70_2 := blk_frozen BK452.out 2
                    go_wp2
                    go_meet
                    case rel => exact ⟨_, ((t443.toList != ([] : List UInt8))), (by first | rfl | (simp; done) | (simp [*]; done) | (simp; exact isEmpty_ne _)), H', ⟨by have := HJ6.out; have := HJ17.out; have := HK3.out; have := HJ45.out; first | omega | exact Nat.le_refl _⟩, ⟨by (with_reducible repeat (first | apply Kd.R_alloc | apply Kd.R_drewN | apply Kd.R_drew)); exact HO_9.out⟩, ⟨by (with_reducible repeat (first | apply Kd.R_alloc | apply Kd.R_drewN | apply Kd.R_drew)); exact HO_453001.out⟩, ⟨by (with_reducible repeat (first | apply Kd.R_alloc | apply Kd.R_drewN | apply Kd.R_drew)); exact HO_453002.out⟩, ⟨by (with_reducible repeat (first | refine blk_drewN ?_ _ | refine blk_drew ?_ | refine blk_alloc ?_ _)); exact BK427.out⟩, ⟨by (with_reducible repeat (first | refine blk_drewN ?_ _ | refine blk_drew ?_ | refine blk_alloc ?_ _)); exact BK452.out⟩, ⟨by repeat (first | (with_reducible first | exact HB.out | apply below_alloc | apply pw_below_drewN | apply below_drew1 | refine below_set ?_ GE427.out | refine below_set ?_ GE452.out) | exact HB.out)⟩⟩
                   ·
                    rw [if_neg c68] at H
                    have c68b0 : ((t447.length : Int) == 0) = false := beq_eq_false_iff_ne.mpr c68
                    have c68b1 : ((t447.length : Int) != 0) = true := bne_iff_ne.mpr c68
                    have c68b2 : ¬ (t447 = []) := fun h_ => c68 (by rw [h_]; rfl)
                    have H' := Aside0.mk H
                    clear H
                    have hnb71 := NB452_427.out
                    have hnc71 := NB427_452.out
                    have hcz72_0 : wc.cell? ⟨gb452, 0, none⟩ = some (.string t443) := (blk_cell BK452.out 0).trans rfl
                    have hcz72_1 : wc.cell? ⟨gb452, 1, none⟩ = some (.slice Ao51 t444.length co51) := (blk_cell BK452.out 1).trans rfl
                    have hcz72_2 : wc.cell? ⟨gb452, 2, none⟩ = some (.slice Ao52 t447.length co52) := (blk_cell BK452.out 2).trans rfl
                    have hfz72_0 := blk_frozen BK452.out 0
                    have hfz72_1 := blk_frozen BK452.out 1
                    have hfz72_2 := blk_frozen BK452.out 2
                    go_wp2
                    go_meet
                    case rel => exact ⟨_, (true), (by first | rfl | (simp; done) | (simp [*]; done)), H', ⟨by have := HJ6.out; have := HJ17.out; have := HK3.out; have := HJ45.out; first | omega | exact Nat.le_refl _⟩, ⟨by (with_reducible repeat (first | apply Kd.R_alloc | apply Kd.R_drewN | apply Kd.R_drew)); exact HO_9.out⟩, ⟨by (with_reducible repeat (first | apply Kd.R_alloc | apply Kd.R_drewN | apply Kd.R_drew)); exact HO_453001.out⟩, ⟨by (with_reducible repeat (first | apply Kd.R_alloc | apply Kd.R_drewN | apply Kd.R_drew)); exact HO_453002.out⟩, ⟨by (with_reducible repeat (first | refine blk_drewN ?_ _ | refine blk_drew ?_ | refine blk_alloc ?_ _)); exact BK427.out⟩, ⟨by (with_reducible repeat (first | refine blk_drewN ?_ _ | refine blk_drew ?_ | refine blk_alloc ?_ _)); exact BK452.out⟩, ⟨by repeat (first | (with_reducible first | exact HB.out | apply below_alloc | apply pw_below_drewN | apply below_drew1 | refine below_set ?_ GE427.out | refine below_set ?_ GE452.out) | exact HB.out)⟩⟩
                  ·
                   rw [if_neg c67] at H
                   have c67b0 : ((t444.length : Int) == 0) = false := beq_eq_false_iff_ne.mpr c67
                   have c67b1 : ((t444.length : Int) != 0) = true := bne_iff_ne.mpr c67
                   have c67b2 : ¬ (t444 = []) := fun h_ => c67 (by rw [h_]; rfl)
                   have H' := Aside0.mk H
                   clear H
                   have hnb73 := NB452_427.out
                   have hnc73 := NB427_452.out
                   have hcz74_0 : wc.cell? ⟨gb452, 0, none⟩ = some (.string t443) := (blk_cell BK452.out 0).trans rfl
                   have hcz74_1 : wc.cell? ⟨gb452, 1, none⟩ = some (.slice Ao51 t444.length co51) := (blk_cell BK452.out 1).trans rfl
                   have hcz74_2 : wc.cell? ⟨gb452, 2, none⟩ = some (.slice Ao52 t447.length co52) := (blk_cell BK452.out 2).trans rfl
                   have hfz74_0 := blk_frozen BK452.out 0
                   have hfz74_1 := blk_frozen BK452.out 1
                   have hfz74_2 := blk_frozen BK452.out 2
                   go_wp2
                   go_meet
                   case rel => exact ⟨_, (true), (by first | rfl | (simp; done) | (simp [*]; done)), H', ⟨by have := HJ6.out; have := HJ17.out; have := HK3.out; have := HJ45.out; first | omega | exact Nat.le_refl _⟩, ⟨by (with_reducible repeat (first | apply Kd.R_alloc | apply Kd.R_drewN | apply Kd.R_drew)); exact HO_9.out⟩, ⟨by (with_reducible repeat (first | apply Kd.R_alloc | apply Kd.R_drewN | apply Kd.R_drew)); exact HO_453001.out⟩, ⟨by (with_reducible repeat (first | apply Kd.R_alloc | apply Kd.R_drewN | apply Kd.R_drew)); exact HO_453002.out⟩, ⟨by (with_reducible repeat (first | refine blk_drewN ?_ _ | refine blk_drew ?_ | refine blk_alloc ?_ _)); exact BK427.out⟩, ⟨by (with_reducible repeat (first | refine blk_drewN ?_ _ | refine blk_drew ?_ | refine blk_alloc ?_ _)); exact BK452.out⟩, ⟨by repeat (first | (with_reducible first | exact HB.out | apply below_alloc | apply pw_below_drewN | apply below_drew1 | refine below_set ?_ GE427.out | refine below_set ?_ GE452.out) | exact HB.out)⟩⟩
                 ·
                  rw [if_neg c66] at H
                  have c66b0 : (t451 == 2) = false := beq_eq_false_iff_ne.mpr c66
                  have c66b1 : (t451 != 2) = true := bne_iff_ne.mpr c66
                  have H' := Aside0.mk H
                  clear H
                  go_wp2
                  go_meet
                  case rel => exact ⟨_, (true), (by first | rfl | (simp; done) | (simp [*]; done)), H', ⟨by have := HJ6.out; have := HJ17.out; have := HK3.out; have := HJ45.out; first | omega | exact Nat.le_refl _⟩, ⟨by (with_reducible repeat (first | apply Kd.R_alloc | apply Kd.R_drewN | apply Kd.R_drew)); exact HO_9.out⟩, ⟨by (with_reducible repeat (first | apply Kd.R_alloc | apply Kd.R_drewN | apply Kd.R_drew)); exact HO_453001.out⟩, ⟨by (with_reducible repeat (first | apply Kd.R_alloc | apply Kd.R_drewN | apply Kd.R_drew)); exact HO_453002.out⟩, ⟨by (with_reducible repeat (first | refine blk_drewN ?_ _ | refine blk_drew ?_ | refine blk_alloc ?_ _)); exact BK427.out⟩, ⟨by (with_reducible repeat (first | refine blk_drewN ?_ _ | refine blk_drew ?_ | refine blk_alloc ?_ _)); exact BK452.out⟩, ⟨by repeat (first | (with_reducible first | exact HB.out | apply below_alloc | apply pw_below_drewN | apply below_drew1 | refine below_set ?_ GE427.out | refine below_set ?_ GE452.out) | exact HB.out)⟩⟩
                ·
                 rw [if_neg c65] at H
                 have c65b0 : (t450 == (wrap64 ((Int.tmod (wrap64 (a1)) (wrap64 ((t433.length : Int) + 1))) + 1))) = false := beq_eq_false_iff_ne.mpr c65
                 have c65b1 : (t450 != (wrap64 ((Int.tmod (wrap64 (a1)) (wrap64 ((t433.length : Int) + 1))) + 1))) = true := bne_iff_ne.mpr c65
                 (first | rw [c65b0] | (simp only [i64_w, i32_w]; rw [c65b0]) | skip)
                 have H' := Aside0.mk H
                 clear H
                 go_wp2
                 go_meet
                 case rel => exact ⟨_, (true), (by first | rfl | (simp; done) | (simp [*]; done)), H', ⟨by have := HJ6.out; have := HJ17.out; have := HK3.out; have := HJ45.out; first | omega | exact Nat.le_refl _⟩, ⟨by (with_reducible repeat (first | apply Kd.R_alloc | apply Kd.R_drewN | apply Kd.R_drew)); exact HO_9.out⟩, ⟨by (with_reducible repeat (first | apply Kd.R_alloc | apply Kd.R_drewN | apply Kd.R_drew)); exact HO_453001.out⟩, ⟨by (with_reducible repeat (first | apply Kd.R_alloc | apply Kd.R_drewN | apply Kd.R_drew)); exact HO_453002.out⟩, ⟨by (with_reducible repeat (first | refine blk_drewN ?_ _ | refine blk_drew ?_ | refine blk_alloc ?_ _)); exact BK427.out⟩, ⟨by (with_reducible repeat (first | refine blk_drewN ?_ _ | refine blk_drew ?_ | refine blk_alloc ?_ _)); exact BK452.out⟩, ⟨by repeat (first | (with_reducible first | exact HB.out | apply below_alloc | apply pw_below_drewN | apply below_drew1 | refine below_set ?_ GE427.out | refine below_set ?_ GE452.out) | exact HB.out)⟩⟩
               case rest =>
                clear HC64
                try clear c1
                try clear c2
                try clear p2
                try clear c3
                try clear c4
                try clear p4
                try clear q4
                try clear hx4
                try clear c5
                try clear c6
                try clear p6
                try clear c7
                try clear c8
                try clear c9
                try clear c10
                try clear c12
                try clear c13
                try clear c14
                try clear c20
                try clear c20b0
                try clear c20b1
                try clear c22
                try clear c23
                try clear c23b0
                try clear c23b1
                try clear c27
                try clear c27b0
                try clear c28
                try clear c28b0
                try clear c28b1
                try clear c29
                try clear c29b0
                try clear c29b1
                try clear c29b2
                try clear c31
                try clear c31b0
                try clear c32
                try clear c32b0
                try clear c33
                try clear c33b0
                try clear c33b1
                try clear c33b2
                try clear c34
                try clear c34b0
                try clear c34b1
                try clear c34b2
                try clear c35
                try clear c35b0
                try clear c36
                try clear c36b0
                try clear c37
                try clear c37b0
                try clear c37b1
                try clear c37b2
                try clear c38
                try clear c38b0
                try clear c38b1
                try clear c38b2
                try clear c41
                try clear c41b0
                try clear c42
                try clear c42b0
                try clear c43
                try clear c43b0
                try clear c43b1
                try clear c43b2
                try clear c44
                try clear c44b0
                try clear c44b1
                try clear c44b2
                try clear p44
                try clear q44
                try clear hx44
                try clear p45
                try clear q45
                try clear hx45
                try clear c49
                try clear c53
                try clear c53b0
                try clear c53b1
                try clear c54
                try clear c54b0
                try clear c54b1
                try clear c54b2
                try clear c56
                try clear c56b0
                try clear c57
                try clear c57b0
                try clear c59
                try clear c60
                try clear c60b0
                try clear c60b1
                try clear c61
                try clear c61b0
                try clear c61b1
                try clear p64
                try clear c65
                try clear c65b0
                try clear c65b1
                try clear c66
                try clear c66b0
                try clear c66b1
                try clear c67
                try clear c67b0
                try clear c67b1
                try clear c67b2
                try clear c68
                try clear c68b0
                try clear c68b1
                try clear c68b2
                try clear c69
                try clear c71
                try clear c73
                try clear hcz11_0
                try clear hcz11_1
                try clear hcz11_2
                try clear hcz50_0
                try clear hcz50_1
                try clear hcz50_2
                try clear hcz70_0
                try clear hcz70_1
                try clear hcz70_2
                try clear hcz72_0
                try clear hcz72_1
                try clear hcz72_2
                try clear hcz74_0
                try clear hcz74_1
                try clear hcz74_2
                try clear hcz9_0
                try clear hcz9_1
                try clear hcz9_2
                try clear hfz11_0
                try clear hfz11_1
                try clear hfz11_2
                try clear hfz50_0
                try clear hfz50_1
                try clear hfz50_2
                try clear hfz70_0
                try clear hfz70_1
                try clear hfz70_2
                try clear hfz72_0
                try clear hfz72_1
                try clear hfz72_2
                try clear hfz74_0
                try clear hfz74_1
                try clear hfz74_2
                try clear hfz9_0
                try clear hfz9_1
                try clear hfz9_2
                try clear hx440_0
                try clear hx441_0
                try clear hx442_0
                try clear hx453_0
                try clear p2
                try clear p4
                try clear p44
                try clear p440
                try clear p441
                try clear p442
                try clear p45
                try clear p453
                try clear p6
                try clear q4
                try clear q44
                try clear q440
                try clear q441
                try clear q442
                try clear q45
                try clear q453
                obtain ⟨kq, x137_63, rfl, HA, HJ63, HO_9, HO_453001, HO_453002, BK427, BK452, HB⟩ := hcut
                cases kq with
                | zero => exact absurd HA.out (by simp [remontoirlaw17_DefWrong.j4])
                | succ kj63 =>
                 have H := HA.out
                 clear HA
                 simp only [remontoirlaw17_DefWrong.j4] at H
                 by_cases c75 : x137_63 = true
                 ·
                  subst c75
                  have H1 : (some false) = some r := by rw [if_pos rfl] at H; exact H
                  clear H
                  have H := H1
                  clear H1
                  obtain rfl := Option.some.inj H
                  go_wp2
                  go_ret
                  exact ⟨by first | rfl | (simp [errW_none, errW_some] <;> rfl) | (simp [*, errW_none, errW_some] <;> rfl) | (simp [errW_none, errW_some]; exact isEmpty_ne _), by repeat (first | (with_reducible first | exact HB.out | apply below_alloc | apply pw_below_drewN | apply below_drew1 | refine below_set ?_ GE427.out | refine below_set ?_ GE452.out) | exact HB.out)⟩
                 ·
                  replace c75 := Bool.eq_false_iff.mpr c75
                  subst c75
                  have H1 : (if (l0_2.length : Int) > 0 then (remontoirlaw17_DefWrong.j5 kj63 t430 t433 (decide ((l0_1.length : Int) < 60))) else (remontoirlaw17_DefWrong.j5 kj63 t430 t433 false)) = some r := by rw [if_neg (show ¬ (false = true) by decide)] at H; exact H
                  clear H
                  have H := H1
                  clear H1
                  have HC76 := Aside0.mk H
                  clear H
                  go_upto_region 24 with (fail)
                  go_cut [147] (fun v147 wc => ∃ (kq : Nat) (x147_75 : Bool), v147 = .bool x147_75 ∧ Aside0 (remontoirlaw17_DefWrong.j5 kq t430 t433 x147_75 = some r) ∧ Aside0 (kq ≤ kj63) ∧ Aside0 (Kd.R Kd.string 9 wc w.heap.size (fun _ => True) (.slice Ao26 t433.length co26) t433) ∧ Aside0 (Kd.R k40 40 wc w.heap.size (fun _ => True) (.slice Ao51 t444.length co51) t444) ∧ Aside0 (Kd.R k42 42 wc w.heap.size (fun _ => True) (.slice Ao52 t447.length co52) t447) ∧ Aside0 (wc.heap[gb427]? = some (.cells #[.string a0_0, (.slice A0_1 l0_1.length c0_1), (.slice A0_2 l0_2.length c0_2)] 25 (0, 0))) ∧ Aside0 (wc.heap[gb452]? = some (.cells #[.string t443, (.slice Ao51 t444.length co51), (.slice Ao52 t447.length co52)] 25 (0, 0))) ∧ Aside0 (Below w.heap.size w wc))
                  case first =>
                   have H := HC76.out
                   clear HC76
                   by_cases c77 : (l0_2.length : Int) > 0
                   ·
                    rw [if_pos c77] at H
                    have c77b0 : decide (0 < (l0_2.length : Int)) = true := decide_eq_true c77
                    have c77b1 : decide (0 < l0_2.length) = true := decide_eq_true (by omega)
                    clear c77
                    (first | rw [c77b0] | (simp only [i64_w, i32_w]; rw [c77b0]) | skip)
                    have H' := Aside0.mk H
                    clear H
                    have hnb78 := NB427_452.out
                    have hnc78 := NB452_427.out
                    have hcz79_0 : wc.cell? ⟨gb427, 0, none⟩ = some (.string a0_0) := (blk_cell BK427.out 0).trans rfl
                    have hcz79_1 : wc.cell? ⟨gb427, 1, none⟩ = some (.slice A0_1 l0_1.length c0_1) := (blk_cell BK427.out 1).trans rfl
                    have hcz79_2 : wc.cell? ⟨gb427, 2, none⟩ = some (.slice A0_2 l0_2.length c0_2) := (blk_cell BK427.out 2).trans rfl
                    have hfz79_0 := blk_frozen BK427.out 0
                    have hfz79_1 := blk_frozen BK427.out 1
                    have hfz79_2 := blk_frozen BK427.out 2
                    go_wp2
                    go_meet
                    case rel => exact ⟨_, (decide ((l0_1.length : Int) < 60)), (by first | rfl | (simp; done) | (simp [*]; done)), H', ⟨by have := HJ6.out; have := HJ17.out; have := HK3.out; have := HJ45.out; have := HJ63.out; first | omega | exact Nat.le_refl _⟩, ⟨by (with_reducible repeat (first | apply Kd.R_alloc | apply Kd.R_drewN | apply Kd.R_drew)); exact HO_9.out⟩, ⟨by (with_reducible repeat (first | apply Kd.R_alloc | apply Kd.R_drewN | apply Kd.R_drew)); exact HO_453001.out⟩, ⟨by (with_reducible repeat (first | apply Kd.R_alloc | apply Kd.R_drewN | apply Kd.R_drew)); exact HO_453002.out⟩, ⟨by (with_reducible repeat (first | refine blk_drewN ?_ _ | refine blk_drew ?_ | refine blk_alloc ?_ _)); exact BK427.out⟩, ⟨by (with_reducible repeat (first | refine blk_drewN ?_ _ | refine blk_drew ?_ | refine blk_alloc ?_ _)); exact BK452.out⟩, ⟨by repeat (first | (with_reducible first | exact HB.out | apply below_alloc | apply pw_below_drewN | apply below_drew1 | refine below_set ?_ GE427.out | refine below_set ?_ GE452.out) | exact HB.out)⟩⟩
                   ·
                    rw [if_neg c77] at H
                    have c77b0 : decide (0 < (l0_2.length : Int)) = false := decide_eq_false c77
                    have c77b1 : decide (0 < l0_2.length) = false := decide_eq_false (by omega)
                    clear c77
                    (first | rw [c77b0] | (simp only [i64_w, i32_w]; rw [c77b0]) | skip)
                    have H' := Aside0.mk H
                    clear H
                    have hnb80 := NB427_452.out
                    have hnc80 := NB452_427.out
                    have hcz81_0 : wc.cell? ⟨gb427, 0, none⟩ = some (.string a0_0) := (blk_cell BK427.out 0).trans rfl
                    have hcz81_1 : wc.cell? ⟨gb427, 1, none⟩ = some (.slice A0_1 l0_1.length c0_1) := (blk_cell BK427.out 1).trans rfl
                    have hcz81_2 : wc.cell? ⟨gb427, 2, none⟩ = some (.slice A0_2 l0_2.length c0_2) := (blk_cell BK427.out 2).trans rfl
                    have hfz81_0 := blk_frozen BK427.out 0
                    have hfz81_1 := blk_frozen BK427.out 1
                    have hfz81_2 := blk_frozen BK427.out 2
                    go_wp2
                    go_meet
                    case rel => exact ⟨_, (false), (by first | rfl | (simp; done) | (simp [*]; done)), H', ⟨by have := HJ6.out; have := HJ17.out; have := HK3.out; have := HJ45.out; have := HJ63.out; first | omega | exact Nat.le_refl _⟩, ⟨by (with_reducible repeat (first | apply Kd.R_alloc | apply Kd.R_drewN | apply Kd.R_drew)); exact HO_9.out⟩, ⟨by (with_reducible repeat (first | apply Kd.R_alloc | apply Kd.R_drewN | apply Kd.R_drew)); exact HO_453001.out⟩, ⟨by (with_reducible repeat (first | apply Kd.R_alloc | apply Kd.R_drewN | apply Kd.R_drew)); exact HO_453002.out⟩, ⟨by (with_reducible repeat (first | refine blk_drewN ?_ _ | refine blk_drew ?_ | refine blk_alloc ?_ _)); exact BK427.out⟩, ⟨by (with_reducible repeat (first | refine blk_drewN ?_ _ | refine blk_drew ?_ | refine blk_alloc ?_ _)); exact BK452.out⟩, ⟨by repeat (first | (with_reducible first | exact HB.out | apply below_alloc | apply pw_below_drewN | apply below_drew1 | refine below_set ?_ GE427.out | refine below_set ?_ GE452.out) | exact HB.out)⟩⟩
                  case rest =>
                   clear HC76
                   try clear c1
                   try clear c2
                   try clear p2
                   try clear c3
                   try clear c4
                   try clear p4
                   try clear q4
                   try clear hx4
                   try clear c5
                   try clear c6
                   try clear p6
                   try clear c7
                   try clear c8
                   try clear c9
                   try clear c10
                   try clear c12
                   try clear c13
                   try clear c14
                   try clear c20
                   try clear c20b0
                   try clear c20b1
                   try clear c22
                   try clear c23
                   try clear c23b0
                   try clear c23b1
                   try clear c27
                   try clear c27b0
                   try clear c28
                   try clear c28b0
                   try clear c28b1
                   try clear c29
                   try clear c29b0
                   try clear c29b1
                   try clear c29b2
                   try clear c31
                   try clear c31b0
                   try clear c32
                   try clear c32b0
                   try clear c33
                   try clear c33b0
                   try clear c33b1
                   try clear c33b2
                   try clear c34
                   try clear c34b0
                   try clear c34b1
                   try clear c34b2
                   try clear c35
                   try clear c35b0
                   try clear c36
                   try clear c36b0
                   try clear c37
                   try clear c37b0
                   try clear c37b1
                   try clear c37b2
                   try clear c38
                   try clear c38b0
                   try clear c38b1
                   try clear c38b2
                   try clear c41
                   try clear c41b0
                   try clear c42
                   try clear c42b0
                   try clear c43
                   try clear c43b0
                   try clear c43b1
                   try clear c43b2
                   try clear c44
                   try clear c44b0
                   try clear c44b1
                   try clear c44b2
                   try clear p44
                   try clear q44
                   try clear hx44
                   try clear p45
                   try clear q45
                   try clear hx45
                   try clear c49
                   try clear c53
                   try clear c53b0
                   try clear c53b1
                   try clear c54
                   try clear c54b0
                   try clear c54b1
                   try clear c54b2
                   try clear c56
                   try clear c56b0
                   try clear c57
                   try clear c57b0
                   try clear c59
                   try clear c60
                   try clear c60b0
                   try clear c60b1
                   try clear c61
                   try clear c61b0
                   try clear c61b1
                   try clear p64
                   try clear c65
                   try clear c65b0
                   try clear c65b1
                   try clear c66
                   try clear c66b0
                   try clear c66b1
                   try clear c67
                   try clear c67b0
                   try clear c67b1
                   try clear c67b2
                   try clear c68
                   try clear c68b0
                   try clear c68b1
                   try clear c68b2
                   try clear c69
                   try clear c71
                   try clear c73
                   try clear c75
                   try clear c77
                   try clear c77b0
                   try clear c77b1
                   try clear c78
                   try clear c80
                   try clear hcz11_0
                   try clear hcz11_1
                   try clear hcz11_2
                   try clear hcz50_0
                   try clear hcz50_1
                   try clear hcz50_2
                   try clear hcz70_0
                   try clear hcz70_1
                   try clear hcz70_2
                   try clear hcz72_0
                   try clear hcz72_1
                   try clear hcz72_2
                   try clear hcz74_0
                   try clear hcz74_1
                   try clear hcz74_2
                   try clear hcz79_0
                   try clear hcz79_1
                   try clear hcz79_2
                   try clear hcz81_0
                   try clear hcz81_1
                   try clear hcz81_2
                   try clear hcz9_0
                   try clear hcz9_1
                   try clear hcz9_2
                   try clear hfz11_0
                   try clear hfz11_1
                   try clear hfz11_2
                   try clear hfz50_0
                   try clear hfz50_1
                   try clear hfz50_2
                   try clear hfz70_0
                   try clear hfz70_1
                   try clear hfz70_2
                   try clear hfz72_0
                   try clear hfz72_1
                   try clear hfz72_2
                   try clear hfz74_0
                   try clear hfz74_1
                   try clear hfz74_2
                   try clear hfz79_0
                   try clear hfz79_1
                   try clear hfz79_2
                   try clear hfz81_0
                   try clear hfz81_1
                   try clear hfz81_2
                   try clear hfz9_0
                   try clear hfz9_1
                   try clear hfz9_2
                   try clear hx440_0
                   try clear hx441_0
                   try clear hx442_0
                   try clear hx453_0
                   try clear p2
                   try clear p4
                   try clear p44
                   try clear p440
                   try clear p441
                   try clear p442
                   try clear p45
                   try clear p453
                   try clear p6
                   try clear p64
                   try clear q4
                   try clear q44
                   try clear q440
                   try clear q441
                   try clear q442
                   try clear q45
                   try clear q453
                   obtain ⟨kq, x147_75, rfl, HA, HJ75, HO_9, HO_453001, HO_453002, BK427, BK452, HB⟩ := hcut
                   cases kq with
                   | zero => exact absurd HA.out (by simp [remontoirlaw17_DefWrong.j5])
                   | succ kj75 =>
                    have H := HA.out
                    clear HA
                    simp only [remontoirlaw17_DefWrong.j5] at H
                    by_cases c82 : x147_75 = true
                    ·
                     subst c82
                     have H1 : (if t430.size + 6 ≤ 9223372036854775807 then ((def_Parse.f kj75 (t430 ++ (⟨#[101, 110, 100, 32, 48, 10]⟩ : ByteArray))).bind fun bt455 => (if bt455.2.2.2.1 = (wrap64 ((t433.length : Int) + 1)) then (if bt455.2.2.2.2 = 2 then ((remontoirlaw17_wakes.f kj75).bind fun t464 => (some t464)) else (some false)) else (some false))) else (none)) = some r := by rw [if_pos rfl] at H; exact H
                     clear H
                     have H := H1
                     clear H1
                     by_cases c83 : t430.size + 6 ≤ 9223372036854775807
                     ·
                      rw [if_pos c83] at H
                      have c83b0 := eq_true c83
                      have c83b1 : decide (t430.size + 6 ≤ 9223372036854775807) = true := decide_eq_true c83
                      try have c83b2 : (9223372036854775807 < t430.size + 6) = False := eq_false (Nat.not_lt.2 c83)
                      replace H := Option.bind_eq_some_iff.mp H
                      obtain ⟨⟨t455, t456, t459, t462, t463⟩, A840, H⟩ := H
                      replace H : (if t462 = (wrap64 ((t433.length : Int) + 1)) then (if t463 = 2 then ((remontoirlaw17_wakes.f kj75).bind fun t464 => (some t464)) else (some false)) else (some false)) = some r := H
                      have A84 := Aside0.mk A840
                      clear A840
                      by_cases c85 : t462 = (wrap64 ((t433.length : Int) + 1))
                      ·
                       rw [if_pos c85] at H
                       have c85b0 : (t462 == (wrap64 ((t433.length : Int) + 1))) = true := beq_iff_eq.mpr c85
                       have c85b1 : (t462 != (wrap64 ((t433.length : Int) + 1))) = false := bne_eq_false_iff_eq.mpr c85
                       clear c85
                       by_cases c86 : t463 = 2
                       ·
                        rw [if_pos c86] at H
                        have c86b0 : (t463 == 2) = true := beq_iff_eq.mpr c86
                        have c86b1 : (t463 != 2) = false := bne_eq_false_iff_eq.mpr c86
                        clear c86
                        replace H := Option.bind_eq_some_iff.mp H
                        obtain ⟨t464, A870, H⟩ := H
                        replace H : (some t464) = some r := H
                        have A87 := Aside0.mk A870
                        clear A870
                        obtain rfl := Option.some.inj H
                        go_wp2_with (first | ((with_reducible refine gate_callee (f := 12) rfl ?_); refine goesL_ (some 151) rfl rfl Tryd.func12 (by kernel_rfl) rfl #[.string (t430 ++ (⟨#[101, 110, 100, 32, 48, 10]⟩ : ByteArray))] rfl (by (try simp only [List.map_toArray, List.map_cons, List.map_nil]); first | done | rfl | (simp only [List.length_drop, List.length_take]; rfl)) ?_; (with_reducible refine (def_Parse.calls kj75 (t430 ++ (⟨#[101, 110, 100, 32, 48, 10]⟩ : ByteArray)) t455 t456 t459 t462 t463 _ A84.out).mono ?_); rintro e w88 ⟨v457, v460, rfl, ho0, ho1, hb⟩; refine ⟨_, rfl, ?_⟩; have n0_ := Aside0.mk (Kd.R_below (by (with_reducible repeat (first | apply Kd.R_alloc | apply Kd.R_drewN | apply Kd.R_drew)); exact HO_9.out) hb); have n1_ := Aside0.mk (Kd.R_elder' (by (with_reducible repeat (first | apply Kd.R_alloc | apply Kd.R_drewN | apply Kd.R_drew)); exact HO_453001.out) (Kd.R_base ho0) hb); have n2_ := Aside0.mk (Kd.R_elder' (by (with_reducible repeat (first | apply Kd.R_alloc | apply Kd.R_drewN | apply Kd.R_drew)); exact HO_453002.out) (Kd.R_base ho1) hb); have n3_ := Aside0.mk (Kd.R_lower (Kd.R_new' ho0 (Kd.R_lt (by (with_reducible repeat (first | apply Kd.R_alloc | apply Kd.R_drewN | apply Kd.R_drew)); exact HO_453001.out))) (below_size (by repeat (first | (with_reducible first | exact HB.out | apply below_alloc | apply pw_below_drewN | apply below_drew1 | refine below_set ?_ GE427.out | refine below_set ?_ GE452.out) | exact HB.out)))); have n4_ := Aside0.mk (Kd.R_lower (Kd.R_new' ho1 (Kd.R_lt (by (with_reducible repeat (first | apply Kd.R_alloc | apply Kd.R_drewN | apply Kd.R_drew)); exact HO_453002.out))) (below_size (by repeat (first | (with_reducible first | exact HB.out | apply below_alloc | apply pw_below_drewN | apply below_drew1 | refine below_set ?_ GE427.out | refine below_set ?_ GE452.out) | exact HB.out)))); have n5_ := Aside0.mk (blk_below (g := gb427) (o := .cells #[.string a0_0, .slice A0_1 l0_1.length c0_1, .slice A0_2 l0_2.length c0_2] 25 (0, 0)) (by (with_reducible repeat (first | refine blk_drewN ?_ _ | refine blk_drew ?_ | refine blk_alloc ?_ _)); exact BK427.out) hb); have n6_ := Aside0.mk (blk_below (g := gb452) (o := .cells #[.string t443, .slice Ao51 t444.length co51, .slice Ao52 t447.length co52] 25 (0, 0)) (by (with_reducible repeat (first | refine blk_drewN ?_ _ | refine blk_drew ?_ | refine blk_alloc ?_ _)); exact BK452.out) hb); have n7_ := Aside0.mk (below_step (by repeat (first | (with_reducible first | exact HB.out | apply below_alloc | apply pw_below_drewN | apply below_drew1 | refine below_set ?_ GE427.out | refine below_set ?_ GE452.out) | exact HB.out)) hb); clear HO_9; clear HO_453001; clear HO_453002; clear BK427; clear BK452; clear HB; have HO_9 := n0_; have HO_453001 := n1_; have HO_453002 := n2_; have HO458 := n3_; have HO461 := n4_; have BK427 := n5_; have BK452 := n6_; have HB := n7_; clear n0_ n1_ n2_ n3_ n4_ n5_ n6_ n7_; (try clear hb); (try clear hb2); (try clear hk); (try clear hi); (try clear ho0); (try clear ho1)) | (go_at_call 9; (with_reducible refine (remontoirlaw17_wakes.calls kj75  t464 _ (Tab.below hTab (by repeat (first | exact HB.out | apply below_alloc | apply pw_below_drewN | apply below_drew1 | (refine below_set ?_ (Aside0.out ?_) <;> (first | assumption | skip)))))  A87.out).mono ?_); rintro e w89 ⟨rfl, hb⟩; have n0_ := Aside0.mk (Kd.R_below (by (with_reducible repeat (first | apply Kd.R_alloc | apply Kd.R_drewN | apply Kd.R_drew)); exact HO_9.out) hb); have n1_ := Aside0.mk (Kd.R_below (by (with_reducible repeat (first | apply Kd.R_alloc | apply Kd.R_drewN | apply Kd.R_drew)); exact HO_453001.out) hb); have n2_ := Aside0.mk (Kd.R_below (by (with_reducible repeat (first | apply Kd.R_alloc | apply Kd.R_drewN | apply Kd.R_drew)); exact HO_453002.out) hb); have n3_ := Aside0.mk (Kd.R_below (by (with_reducible repeat (first | apply Kd.R_alloc | apply Kd.R_drewN | apply Kd.R_drew)); exact HO458.out) hb); have n4_ := Aside0.mk (Kd.R_below (by (with_reducible repeat (first | apply Kd.R_alloc | apply Kd.R_drewN | apply Kd.R_drew)); exact HO461.out) hb); have n5_ := Aside0.mk (blk_below (g := gb427) (o := .cells #[.string a0_0, .slice A0_1 l0_1.length c0_1, .slice A0_2 l0_2.length c0_2] 25 (0, 0)) (by (with_reducible repeat (first | refine blk_drewN ?_ _ | refine blk_drew ?_ | refine blk_alloc ?_ _)); exact BK427.out) hb); have n6_ := Aside0.mk (blk_below (g := gb452) (o := .cells #[.string t443, .slice Ao51 t444.length co51, .slice Ao52 t447.length co52] 25 (0, 0)) (by (with_reducible repeat (first | refine blk_drewN ?_ _ | refine blk_drew ?_ | refine blk_alloc ?_ _)); exact BK452.out) hb); have n7_ := Aside0.mk (below_step (by repeat (first | (with_reducible first | exact HB.out | apply below_alloc | apply pw_below_drewN | apply below_drew1 | refine below_set ?_ GE427.out | refine below_set ?_ GE452.out) | exact HB.out)) hb); clear HO_9; clear HO_453001; clear HO_453002; clear HO458; clear HO461; clear BK427; clear BK452; clear HB; have HO_9 := n0_; have HO_453001 := n1_; have HO_453002 := n2_; have HO458 := n3_; have HO461 := n4_; have BK427 := n5_; have BK452 := n6_; have HB := n7_; clear n0_ n1_ n2_ n3_ n4_ n5_ n6_ n7_; (try clear hb); (try clear hb2); (try clear hk); (try clear hi)))
                        go_ret
                        exact ⟨by first | rfl | (simp [errW_none, errW_some] <;> rfl) | (simp [*, errW_none, errW_some] <;> rfl) | (simp [errW_none, errW_some]; exact isEmpty_ne _), by repeat (first | (with_reducible first | exact HB.out | apply below_alloc | apply pw_below_drewN | apply below_drew1 | refine below_set ?_ GE427.out | refine below_set ?_ GE452.out) | exact HB.out)⟩
                       ·
                        rw [if_neg c86] at H
                        exact absurd (Option.some.inj H) (by rw [hr_]; decide)
                      ·
                       rw [if_neg c85] at H
                       exact absurd (Option.some.inj H) (by rw [hr_]; decide)
                     ·
                      rw [if_neg c83] at H
                      exact absurd H (by simp)
                    ·
                     replace c82 := Bool.eq_false_iff.mpr c82
                     subst c82
                     have H1 : ((remontoirlaw17_wakes.f kj75).bind fun t465 => (some t465)) = some r := by rw [if_neg (show ¬ (false = true) by decide)] at H; exact H
                     clear H
                     have H := H1
                     clear H1
                     replace H := Option.bind_eq_some_iff.mp H
                     obtain ⟨t465, A920, H⟩ := H
                     replace H : (some t465) = some r := H
                     have A92 := Aside0.mk A920
                     clear A920
                     obtain rfl := Option.some.inj H
                     go_wp2_with (first | ((with_reducible refine gate_callee (f := 9) rfl ?_); refine goesL_ (some 167) rfl rfl Tryd.func9 (by kernel_rfl) rfl #[] rfl (by (try simp only [List.map_toArray, List.map_cons, List.map_nil]); first | done | rfl | (simp only [List.length_drop, List.length_take]; rfl)) ?_; (with_reducible refine (remontoirlaw17_wakes.calls kj75  t465 _ (Tab.below hTab (by repeat (first | exact HB.out | apply below_alloc | apply pw_below_drewN | apply below_drew1 | (refine below_set ?_ (Aside0.out ?_) <;> (first | assumption | skip)))))  A92.out).mono ?_); rintro e w93 ⟨rfl, hb⟩; refine ⟨_, rfl, ?_⟩; have n0_ := Aside0.mk (Kd.R_below (by (with_reducible repeat (first | apply Kd.R_alloc | apply Kd.R_drewN | apply Kd.R_drew)); exact HO_9.out) hb); have n1_ := Aside0.mk (Kd.R_below (by (with_reducible repeat (first | apply Kd.R_alloc | apply Kd.R_drewN | apply Kd.R_drew)); exact HO_453001.out) hb); have n2_ := Aside0.mk (Kd.R_below (by (with_reducible repeat (first | apply Kd.R_alloc | apply Kd.R_drewN | apply Kd.R_drew)); exact HO_453002.out) hb); have n3_ := Aside0.mk (blk_below (g := gb427) (o := .cells #[.string a0_0, .slice A0_1 l0_1.length c0_1, .slice A0_2 l0_2.length c0_2] 25 (0, 0)) (by (with_reducible repeat (first | refine blk_drewN ?_ _ | refine blk_drew ?_ | refine blk_alloc ?_ _)); exact BK427.out) hb); have n4_ := Aside0.mk (blk_below (g := gb452) (o := .cells #[.string t443, .slice Ao51 t444.length co51, .slice Ao52 t447.length co52] 25 (0, 0)) (by (with_reducible repeat (first | refine blk_drewN ?_ _ | refine blk_drew ?_ | refine blk_alloc ?_ _)); exact BK452.out) hb); have n5_ := Aside0.mk (below_step (by repeat (first | (with_reducible first | exact HB.out | apply below_alloc | apply pw_below_drewN | apply below_drew1 | refine below_set ?_ GE427.out | refine below_set ?_ GE452.out) | exact HB.out)) hb); clear HO_9; clear HO_453001; clear HO_453002; clear BK427; clear BK452; clear HB; have HO_9 := n0_; have HO_453001 := n1_; have HO_453002 := n2_; have BK427 := n3_; have BK452 := n4_; have HB := n5_; clear n0_ n1_ n2_ n3_ n4_ n5_; (try clear hb); (try clear hb2); (try clear hk); (try clear hi)))
                     go_ret
                     exact ⟨by first | rfl | (simp [errW_none, errW_some] <;> rfl) | (simp [*, errW_none, errW_some] <;> rfl) | (simp [errW_none, errW_some]; exact isEmpty_ne _), by repeat (first | (with_reducible first | exact HB.out | apply below_alloc | apply pw_below_drewN | apply below_drew1 | refine below_set ?_ GE427.out | refine below_set ?_ GE452.out) | exact HB.out)⟩
 ·
  replace c5 := Bool.eq_false_iff.mpr c5
  subst c5
  have H1 : ((remontoirlaw17_wakes.f k).bind fun t429 => (some t429)) = some r := by rw [if_neg (show ¬ (false = true) by decide)] at H; exact H
  clear H
  have H := H1
  clear H1
  replace H := Option.bind_eq_some_iff.mp H
  obtain ⟨t429, A940, H⟩ := H
  replace H : (some t429) = some r := H
  have A94 := Aside0.mk A940
  clear A940
  obtain rfl := Option.some.inj H
  go_enter Tryd.func6, Tryd.ntmps6
  go_wp2_with (first | ((with_reducible refine gate_dst (N := 3) rfl ?_); (try (refine gate_guard (by rfl) ?_; dsimp only)); refine box_event ?hg (N := 3) ?hd (cs := #[.string a0_0, .slice A0_1 l0_1.length c0_1, .slice A0_2 l0_2.length c0_2]) (t := 25) ?hr ?_; (case hd => rfl); (case hg => rfl); (case hr => first | (go_simp; done) | (go_simp; rfl)); intro gb427 hg w95 hbox hb; have n0_ := Aside0.mk (below_step (by repeat (first | (with_reducible first | exact HB.out | apply below_alloc | apply pw_below_drewN | apply below_drew1) | exact HB.out)) hb); have n1_ := Aside0.mk (hbox); have n2_ := Aside0.mk ((by rw [hg]; exact (below_size (by repeat (first | (with_reducible first | exact HB.out | apply below_alloc | apply pw_below_drewN | apply below_drew1) | exact HB.out))) : w.heap.size ≤ gb427)); have n3_ := Aside0.mk ((by rw [hg]; exact (below_size (by repeat (first | (with_reducible first | exact HB.out | apply below_alloc | apply pw_below_drewN | apply below_drew1) | exact HB.out))) : w.heap.size ≤ gb427)); clear HB; have HB := n0_; have BK427 := n1_; have GW427 := n2_; have GE427 := n3_; clear n0_ n1_ n2_ n3_; clear hb hbox hg; have hcz96_0 : w95.cell? ⟨gb427, 0, none⟩ = some (.string a0_0) := (blk_cell BK427.out 0).trans rfl; have hcz96_1 : w95.cell? ⟨gb427, 1, none⟩ = some (.slice A0_1 l0_1.length c0_1) := (blk_cell BK427.out 1).trans rfl; have hcz96_2 : w95.cell? ⟨gb427, 2, none⟩ = some (.slice A0_2 l0_2.length c0_2) := (blk_cell BK427.out 2).trans rfl; have hfz96_0 := blk_frozen BK427.out 0; have hfz96_1 := blk_frozen BK427.out 1; have hfz96_2 := blk_frozen BK427.out 2) | ((with_reducible refine gate_callee (f := 8) rfl ?_); refine goesL_ (some 19) rfl rfl Tryd.func8 (by kernel_rfl) rfl #[.agg #[.string a0_0, .slice A0_1 l0_1.length c0_1, .slice A0_2 l0_2.length c0_2]] rfl (by (try simp only [List.map_toArray, List.map_cons, List.map_nil]); first | done | rfl | (simp only [List.length_drop, List.length_take]; rfl)) ?_; (with_reducible refine (remontoirkeep_LightDef.calls k a0_0 _ _ l0_1 _ _ l0_2 false _ ?side1 ?side2 ?side3 ?side4 A4.out).mono ?_); (case side1 => repeat (first | exact (Kd.C_below HR0_1.out HB.out) | (with_reducible refine Kd.C_alloc ?_ _) | (with_reducible refine Kd.C_drewN ?_ _) | (with_reducible refine Kd.C_drew ?_))); (case side2 => exact HC0_1.out); (case side3 => repeat (first | exact (Kd.C_below HR0_2.out HB.out) | (with_reducible refine Kd.C_alloc ?_ _) | (with_reducible refine Kd.C_drewN ?_ _) | (with_reducible refine Kd.C_drew ?_))); (case side4 => exact HC0_2.out); rintro e w97 ⟨rfl, hb⟩; refine ⟨_, rfl, ?_⟩; have n0_ := Aside0.mk (blk_below (g := gb427) (o := .cells #[.string a0_0, .slice A0_1 l0_1.length c0_1, .slice A0_2 l0_2.length c0_2] 25 (0, 0)) (by (with_reducible repeat (first | refine blk_drewN ?_ _ | refine blk_drew ?_ | refine blk_alloc ?_ _)); exact BK427.out) hb); have n1_ := Aside0.mk (below_step (by repeat (first | (with_reducible first | exact HB.out | apply below_alloc | apply pw_below_drewN | apply below_drew1 | refine below_set ?_ GE427.out) | exact HB.out)) hb); clear BK427; clear HB; have BK427 := n0_; have HB := n1_; clear n0_ n1_; (try clear hb); (try clear hb2); (try clear hk); (try clear hi)) | ((with_reducible refine gate_callee (f := 9) rfl ?_); refine goesL_ (some 21) rfl rfl Tryd.func9 (by kernel_rfl) rfl #[] rfl (by (try simp only [List.map_toArray, List.map_cons, List.map_nil]); first | done | rfl | (simp only [List.length_drop, List.length_take]; rfl)) ?_; (with_reducible refine (remontoirlaw17_wakes.calls k  t429 _ (Tab.below hTab (by repeat (first | exact HB.out | apply below_alloc | apply pw_below_drewN | apply below_drew1 | (refine below_set ?_ (Aside0.out ?_) <;> (first | assumption | skip)))))  A94.out).mono ?_); rintro e w98 ⟨rfl, hb⟩; refine ⟨_, rfl, ?_⟩; have n0_ := Aside0.mk (blk_below (g := gb427) (o := .cells #[.string a0_0, .slice A0_1 l0_1.length c0_1, .slice A0_2 l0_2.length c0_2] 25 (0, 0)) (by (with_reducible repeat (first | refine blk_drewN ?_ _ | refine blk_drew ?_ | refine blk_alloc ?_ _)); exact BK427.out) hb); have n1_ := Aside0.mk (below_step (by repeat (first | (with_reducible first | exact HB.out | apply below_alloc | apply pw_below_drewN | apply below_drew1 | refine below_set ?_ GE427.out) | exact HB.out)) hb); clear BK427; clear HB; have BK427 := n0_; have HB := n1_; clear n0_ n1_; (try clear hb); (try clear hb2); (try clear hk); (try clear hi)))
  go_ret
  exact ⟨by first | rfl | (simp [errW_none, errW_some] <;> rfl) | (simp [*, errW_none, errW_some] <;> rfl) | (simp [errW_none, errW_some]; exact isEmpty_ne _), by repeat (first | (with_reducible first | exact HB.out | apply below_alloc | apply pw_below_drewN | apply below_drew1 | refine below_set ?_ GE427.out) | exact HB.out)⟩

end Go.Proofs.YtpalncojmknlbaaDoor.Y
