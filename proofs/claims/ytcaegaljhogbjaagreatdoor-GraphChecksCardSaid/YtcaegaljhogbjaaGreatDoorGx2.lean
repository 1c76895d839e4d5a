/- What Go functions compute, as plain Lean functions, and that the machine comes to just that: written by wip/tools/printx.py (my run of the printer, with contracts of mine beside it). -/
import Derived.Test.YtcaegaljhogbjaaGreatDoorOn
import Derived.Test.YtcaegaljhogbjaaGreatDoorGx0
namespace Go.Proofs.YtcaegaljhogbjaaGreatDoor.G
open  Go.RowKit Go.Proofs.YtcaegaljhogbjaaGreatDoorW.PrintWords Go.Proofs.YtcaegaljhogbjaaGreatDoorW.PrintLast Go.Proofs.YtcaegaljhogbjaaGreatDoorW.PrintMore
attribute [local go_sem] max2_int min2_int max_two min_two max_three min_three max_four min_four   -- for this text's walks alone
set_option linter.unusedVariables false
set_option linter.unusedSimpArgs false

/-! ### zaz: function 86 -/
def zaz.f (a0 : Int) : Option (ByteArray) := (some (([(⟨#[]⟩ : ByteArray), (⟨#[]⟩ : ByteArray), (⟨#[]⟩ : ByteArray), (⟨#[43]⟩ : ByteArray), (⟨#[45]⟩ : ByteArray), (⟨#[42]⟩ : ByteArray), (⟨#[60]⟩ : ByteArray), (⟨#[60, 61]⟩ : ByteArray), (⟨#[62]⟩ : ByteArray), (⟨#[62, 61]⟩ : ByteArray), (⟨#[61, 61]⟩ : ByteArray), (⟨#[33, 61]⟩ : ByteArray), (⟨#[38]⟩ : ByteArray), (⟨#[124]⟩ : ByteArray), (⟨#[33]⟩ : ByteArray), (⟨#[40]⟩ : ByteArray), (⟨#[41]⟩ : ByteArray), (⟨#[91]⟩ : ByteArray), (⟨#[93]⟩ : ByteArray)] : List ByteArray) : List ByteArray)).bind fun y101 => (if 0 ≤ a0 then (if a0 < (y101.length : Int) then (some (rdOf ByteArray.empty y101 a0)) else (none)) else (none))
set_option maxHeartbeats 8000000 in
set_option maxRecDepth 100000 in
theorem zaz.calls (a0 : Int) (r : ByteArray) (w : World) (h : zaz.f a0 = some r) :
  Calls Tryz.prog 86 #[.int .i64 a0] w fun e w' => e = .returned (.string r) ∧ Below w.heap.size w w' := by
 have HB := mk0 (Below.refl w.heap.size w)
 have H : ((some (([(⟨#[]⟩ : ByteArray), (⟨#[]⟩ : ByteArray), (⟨#[]⟩ : ByteArray), (⟨#[43]⟩ : ByteArray), (⟨#[45]⟩ : ByteArray), (⟨#[42]⟩ : ByteArray), (⟨#[60]⟩ : ByteArray), (⟨#[60, 61]⟩ : ByteArray), (⟨#[62]⟩ : ByteArray), (⟨#[62, 61]⟩ : ByteArray), (⟨#[61, 61]⟩ : ByteArray), (⟨#[33, 61]⟩ : ByteArray), (⟨#[38]⟩ : ByteArray), (⟨#[124]⟩ : ByteArray), (⟨#[33]⟩ : ByteArray), (⟨#[40]⟩ : ByteArray), (⟨#[41]⟩ : ByteArray), (⟨#[91]⟩ : ByteArray), (⟨#[93]⟩ : ByteArray)] : List ByteArray) : List ByteArray)).bind fun y101 => (if 0 ≤ a0 then (if a0 < (y101.length : Int) then (some (rdOf ByteArray.empty y101 a0)) else (none)) else (none))) = some r := h
 clear h
 obtain ⟨y101, hy101⟩ : ∃ y_ : List ByteArray, y_ = (([(⟨#[]⟩ : ByteArray), (⟨#[]⟩ : ByteArray), (⟨#[]⟩ : ByteArray), (⟨#[43]⟩ : ByteArray), (⟨#[45]⟩ : ByteArray), (⟨#[42]⟩ : ByteArray), (⟨#[60]⟩ : ByteArray), (⟨#[60, 61]⟩ : ByteArray), (⟨#[62]⟩ : ByteArray), (⟨#[62, 61]⟩ : ByteArray), (⟨#[61, 61]⟩ : ByteArray), (⟨#[33, 61]⟩ : ByteArray), (⟨#[38]⟩ : ByteArray), (⟨#[124]⟩ : ByteArray), (⟨#[33]⟩ : ByteArray), (⟨#[40]⟩ : ByteArray), (⟨#[41]⟩ : ByteArray), (⟨#[91]⟩ : ByteArray), (⟨#[93]⟩ : ByteArray)] : List ByteArray)) := ⟨_, rfl⟩
 replace H : (if 0 ≤ a0 then (if a0 < (y101.length : Int) then (some (rdOf ByteArray.empty y101 a0)) else (none)) else (none)) = some r := by first | (rw [hy101]; with_reducible exact H) | (have H2_ := (Option.bind_some _ _).symm.trans H; rw [hy101]; with_reducible exact H2_) | (have H2_ := (Option.bind_some _ _).symm.trans H; with_reducible exact H2_) | with_reducible exact H | (rw [hy101]; exact H) | exact H
 have Ny101 := mk0 hy101
 clear hy101
 by_cases c2 : 0 ≤ a0
 ·
  rw [if_pos c2] at H
  have c2b0 : decide (0 ≤ a0) = true := decide_eq_true c2
  clear c2
  by_cases c3 : a0 < (y101.length : Int)
  ·
   rw [if_pos c3] at H
   have c3b0 : decide (a0 < (y101.length : Int)) = true := decide_eq_true c3
   clear c3
   obtain rfl := Option.some.inj H
   go_enter Tryz.func86, Tryz.ntmps86
   go_wp2_with (first | ((with_reducible refine gate_dst (N := 3) rfl ?_); refine Kd.R_lit Kd.string _ 9 ?hg (N := 3) ?hd (xs := ([(⟨#[]⟩ : ByteArray), (⟨#[]⟩ : ByteArray), (⟨#[]⟩ : ByteArray), (⟨#[43]⟩ : ByteArray), (⟨#[45]⟩ : ByteArray), (⟨#[42]⟩ : ByteArray), (⟨#[60]⟩ : ByteArray), (⟨#[60, 61]⟩ : ByteArray), (⟨#[62]⟩ : ByteArray), (⟨#[62, 61]⟩ : ByteArray), (⟨#[61, 61]⟩ : ByteArray), (⟨#[33, 61]⟩ : ByteArray), (⟨#[38]⟩ : ByteArray), (⟨#[124]⟩ : ByteArray), (⟨#[33]⟩ : ByteArray), (⟨#[40]⟩ : ByteArray), (⟨#[41]⟩ : ByteArray), (⟨#[91]⟩ : ByteArray), (⟨#[93]⟩ : ByteArray)] : List ByteArray)) (inner := [.string (⟨#[]⟩ : ByteArray), .string (⟨#[]⟩ : ByteArray), .string (⟨#[]⟩ : ByteArray), .string (⟨#[43]⟩ : ByteArray), .string (⟨#[45]⟩ : ByteArray), .string (⟨#[42]⟩ : ByteArray), .string (⟨#[60]⟩ : ByteArray), .string (⟨#[60, 61]⟩ : ByteArray), .string (⟨#[62]⟩ : ByteArray), .string (⟨#[62, 61]⟩ : ByteArray), .string (⟨#[61, 61]⟩ : ByteArray), .string (⟨#[33, 61]⟩ : ByteArray), .string (⟨#[38]⟩ : ByteArray), .string (⟨#[124]⟩ : ByteArray), .string (⟨#[33]⟩ : ByteArray), .string (⟨#[40]⟩ : ByteArray), .string (⟨#[41]⟩ : ByteArray), .string (⟨#[91]⟩ : ByteArray), .string (⟨#[93]⟩ : ByteArray)]) (ok := fun _ => True) (okp := fun _ => True) ?hr ?hp (fun _ hk => hk) trivial (Below.refl _ _) (Nat.le_refl _) (by simp) ?_; (case hd => rfl); (case hg => rfl); (case hr => first | (go_simp; done) | (go_simp; rfl)); (case hp => exact (Reps.one (show Kd.M Kd.string _ _ _ (⟨#[]⟩ : ByteArray) [.string (⟨#[]⟩ : ByteArray)] from rfl) (Reps.one (show Kd.M Kd.string _ _ _ (⟨#[]⟩ : ByteArray) [.string (⟨#[]⟩ : ByteArray)] from rfl) (Reps.one (show Kd.M Kd.string _ _ _ (⟨#[]⟩ : ByteArray) [.string (⟨#[]⟩ : ByteArray)] from rfl) (Reps.one (show Kd.M Kd.string _ _ _ (⟨#[43]⟩ : ByteArray) [.string (⟨#[43]⟩ : ByteArray)] from rfl) (Reps.one (show Kd.M Kd.string _ _ _ (⟨#[45]⟩ : ByteArray) [.string (⟨#[45]⟩ : ByteArray)] from rfl) (Reps.one (show Kd.M Kd.string _ _ _ (⟨#[42]⟩ : ByteArray) [.string (⟨#[42]⟩ : ByteArray)] from rfl) (Reps.one (show Kd.M Kd.string _ _ _ (⟨#[60]⟩ : ByteArray) [.string (⟨#[60]⟩ : ByteArray)] from rfl) (Reps.one (show Kd.M Kd.string _ _ _ (⟨#[60, 61]⟩ : ByteArray) [.string (⟨#[60, 61]⟩ : ByteArray)] from rfl) (Reps.one (show Kd.M Kd.string _ _ _ (⟨#[62]⟩ : ByteArray) [.string (⟨#[62]⟩ : ByteArray)] from rfl) (Reps.one (show Kd.M Kd.string _ _ _ (⟨#[62, 61]⟩ : ByteArray) [.string (⟨#[62, 61]⟩ : ByteArray)] from rfl) (Reps.one (show Kd.M Kd.string _ _ _ (⟨#[61, 61]⟩ : ByteArray) [.string (⟨#[61, 61]⟩ : ByteArray)] from rfl) (Reps.one (show Kd.M Kd.string _ _ _ (⟨#[33, 61]⟩ : ByteArray) [.string (⟨#[33, 61]⟩ : ByteArray)] from rfl) (Reps.one (show Kd.M Kd.string _ _ _ (⟨#[38]⟩ : ByteArray) [.string (⟨#[38]⟩ : ByteArray)] from rfl) (Reps.one (show Kd.M Kd.string _ _ _ (⟨#[124]⟩ : ByteArray) [.string (⟨#[124]⟩ : ByteArray)] from rfl) (Reps.one (show Kd.M Kd.string _ _ _ (⟨#[33]⟩ : ByteArray) [.string (⟨#[33]⟩ : ByteArray)] from rfl) (Reps.one (show Kd.M Kd.string _ _ _ (⟨#[40]⟩ : ByteArray) [.string (⟨#[40]⟩ : ByteArray)] from rfl) (Reps.one (show Kd.M Kd.string _ _ _ (⟨#[41]⟩ : ByteArray) [.string (⟨#[41]⟩ : ByteArray)] from rfl) (Reps.one (show Kd.M Kd.string _ _ _ (⟨#[91]⟩ : ByteArray) [.string (⟨#[91]⟩ : ByteArray)] from rfl) (Reps.one (show Kd.M Kd.string _ _ _ (⟨#[93]⟩ : ByteArray) [.string (⟨#[93]⟩ : ByteArray)] from rfl) (Reps.none _ _))))))))))))))))))))); intro v102 w4 ho5 hb hg_ hnew_; clear hg_ hnew_; (first | rw [← Ny101.out] at ho5 | (simp only [Int.reduceToNat] at ho5; rw [← Ny101.out] at ho5)); have n0_ := mk0 (Kd.R_lower ho5 (below_size (by exact bok HB.out))); have n1_ := mk0 (bst HB.out hb); clear HB; have HO103 := n0_; have HB := n1_; clear n0_ n1_; clear hb ho5; obtain ⟨Ao6, co6, eo6⟩ := Kd.R_slice HO103.out; subst eo6; have p104 : 0 ≤ (a0 : Int) := of_decide_eq_true (by assumption); have q104 : a0 < (y101.length : Int) := of_decide_eq_true (by assumption); obtain ⟨ad104, e104, hx104_0⟩ := Kd.at_string (Kd.R_reads' HO103.out).2.2 a0 p104 q104; cases e104; replace p104 := eq_true p104; replace q104 := eq_true q104))
   go_ret
   exact ⟨by first | rfl | (simp [*, zbe, zbf] <;> rfl) | (simp [zbe, zbf]; exact isEmpty_ne _), by exact bok HB.out⟩
  ·
   rw [if_neg c3] at H
   exact absurd H (by simp)
 ·
  rw [if_neg c2] at H
  exact absurd H (by simp)

end Go.Proofs.YtcaegaljhogbjaaGreatDoor.G

namespace Go.Proofs.YtcaegaljhogbjaaGreatDoor.G
open  Go.RowKit Go.Proofs.YtcaegaljhogbjaaGreatDoorW.PrintWords Go.Proofs.YtcaegaljhogbjaaGreatDoorW.PrintLast Go.Proofs.YtcaegaljhogbjaaGreatDoorW.PrintMore
attribute [local go_sem] max2_int min2_int max_two min_two max_three min_three max_four min_four   -- for this text's walks alone
set_option linter.unusedVariables false
set_option linter.unusedSimpArgs false

/-! ### zad: function 64 -/
mutual
def zad.l0 : Nat → ByteArray → List (S118) → Int → Option ((List (S118)) × Int)
 | 0, _, _, _ => none
 | k + 1, x0, x4, x5 => if x5 < (x0.size : Int) then (if 0 ≤ x5 then (if (bt x0 x5) = 32 then (zad.l0 k x0 x4 (wrap64 (x5 + 1))) else (if (bt x0 x5) ≥ 97 then (zad.j1 k x0 x4 x5 (bt x0 x5) (decide ((bt x0 x5) ≤ 122))) else (zad.j1 k x0 x4 x5 (bt x0 x5) false))) else (none)) else (some (x4, 0))
def zad.j1 : Nat → ByteArray → List (S118) → Int → Int → Bool → Option ((List (S118)) × Int)
 | 0, _, _, _, _, _ => none
 | k + 1, x0, x4, x5, x6, x31 => if x31 = true then (if x4.length < 8796093022208 then (zad.l0 k x0 (x4 ++ [(⟨2, (x6 - 97) % 256⟩ : S118)]) (wrap64 (x5 + 1))) else (none)) else (if x6 ≥ 48 then (zad.j2 k x0 x4 x5 x6 (decide (x6 ≤ 57))) else (zad.j2 k x0 x4 x5 x6 false))
def zad.j2 : Nat → ByteArray → List (S118) → Int → Int → Bool → Option ((List (S118)) × Int)
 | 0, _, _, _, _, _ => none
 | k + 1, x0, x4, x5, x6, x46 => if x46 = true then (zad.l1 k x0 x4 x5 x6 x5 0) else (zad.l2 k x0 x4 x5 0 3)
def zad.j4 : Nat → ByteArray → List (S118) → Int → Int → Int → Int → Option ((List (S118)) × Int)
 | 0, _, _, _, _, _, _ => none
 | k + 1, x0, x4, x5, x6, x7, x8 => if x6 = 48 then (zad.j5 k x0 x4 x7 x8 (decide (x7 > (wrap64 (x5 + 1))))) else (zad.j5 k x0 x4 x7 x8 false)
def zad.j5 : Nat → ByteArray → List (S118) → Int → Int → Bool → Option ((List (S118)) × Int)
 | 0, _, _, _, _, _ => none
 | k + 1, x0, x4, x7, x8, x82 => if x82 = true then (some (([] : List (S118)), 2)) else (if x8 > 2147483647 then (some (([] : List (S118)), 3)) else (if x4.length < 8796093022208 then (zad.l0 k x0 (x4 ++ [(⟨1, x8⟩ : S118)]) x7) else (none)))
def zad.l1 : Nat → ByteArray → List (S118) → Int → Int → Int → Int → Option ((List (S118)) × Int)
 | 0, _, _, _, _, _, _ => none
 | k + 1, x0, x4, x5, x6, x7, x8 => if x7 < (x0.size : Int) then (if 0 ≤ x7 then (if (bt x0 x7) ≥ 48 then (if (bt x0 x7) ≤ 57 then (zad.l1 k x0 x4 x5 x6 (wrap64 (x7 + 1)) (mn (wrap64 ((wrap64 (10 * x8)) + (((bt x0 x7) - 48) % 256))) 2147483648)) else (zad.j4 k x0 x4 x5 x6 x7 x8)) else (zad.j4 k x0 x4 x5 x6 x7 x8)) else (none)) else (zad.j4 k x0 x4 x5 x6 x7 x8)
def zad.l2 : Nat → ByteArray → List (S118) → Int → Int → Int → Option ((List (S118)) × Int)
 | 0, _, _, _, _, _ => none
 | k + 1, x0, x4, x5, x9, x10 => if x10 ≤ 18 then ((zaz.f x10).bind fun t115 => (if (wrap64 ((x0.size : Int) - x5)) ≥ (t115.size : Int) then (if 0 ≤ x5 then (if x5 ≤ (wrap64 (x5 + (t115.size : Int))) then (if (wrap64 (x5 + (t115.size : Int))) ≤ (x0.size : Int) then (if (x0.extract (x5 : Int).toNat ((wrap64 (x5 + (t115.size : Int))) : Int).toNat).toList = t115.toList then (if x9 = 0 then (zad.l2 k x0 x4 x5 x10 (wrap64 (x10 + 1))) else ((zaz.f x9).bind fun t116 => (if (t115.size : Int) > (t116.size : Int) then (zad.l2 k x0 x4 x5 x10 (wrap64 (x10 + 1))) else (zad.l2 k x0 x4 x5 x9 (wrap64 (x10 + 1)))))) else (zad.l2 k x0 x4 x5 x9 (wrap64 (x10 + 1)))) else (none)) else (none)) else (none)) else (zad.l2 k x0 x4 x5 x9 (wrap64 (x10 + 1))))) else (if x9 = 0 then (some (([] : List (S118)), 2)) else (if x4.length < 8796093022208 then ((zaz.f x9).bind fun t114 => (zad.l0 k x0 (x4 ++ [(⟨x9, 0⟩ : S118)]) (wrap64 (x5 + (t114.size : Int))))) else (none)))
end
def zad.f (k : Nat) (a0 : ByteArray) : Option ((List (S118)) × Int) := if (a0.size : Int) > 60 then (some (([] : List (S118)), 15)) else (zad.l0 k a0 ([] : List (S118)) 0)
set_option maxHeartbeats 8000000 in
set_option maxRecDepth 100000 in
theorem zad.calls (k : Nat) (a0 : ByteArray) (r1 : List (S118)) (r2 : Int) (w : World) (h : zad.f k a0 = some (r1, r2)) :
  Calls Tryz.prog 64 #[.string a0] w fun e w' => ∃ v0_ : Value, e = .returned (.tuple #[v0_, .int .i64 r2]) ∧ Kd.R k118 118 w' w.heap.size (fun _ => True) v0_ r1 ∧ Below w.heap.size w w' := by
 have hu118 := Tryz.underlying118
 have HB := mk0 (Below.refl w.heap.size w)
 have H : (if (a0.size : Int) > 60 then (some (([] : List (S118)), 15)) else (zad.l0 k a0 ([] : List (S118)) 0)) = some (r1, r2) := h
 clear h
 by_cases c2 : (a0.size : Int) > 60
 ·
  rw [if_pos c2] at H
  have c2b0 : decide (60 < (a0.size : Int)) = true := decide_eq_true c2
  have c2b1 : decide (60 < a0.size) = true := decide_eq_true (by omega)
  clear c2
  simp only [Option.some.injEq, Prod.mk.injEq] at H
  obtain ⟨rfl, rfl⟩ := H
  go_enter Tryz.func64, Tryz.ntmps64
  go_wp2
  go_ret2
  exact ⟨_, by first | rfl | (simp [*, zbe, zbf] <;> rfl), by first | exact Kd.R_nil _ _ _ _ _ | exact Kd.N_nil _ _ _ _ _ | exact Kd.V_nil _ _ _ _ _ | exact Kd.Q_nil _ _ _ _ _ | exact Kd.S_nil _ _ _ _ _, by exact bok HB.out⟩
 ·
  rw [if_neg c2] at H
  have c2b0 : decide (60 < (a0.size : Int)) = false := decide_eq_false c2
  have c2b1 : decide (60 < a0.size) = false := decide_eq_false (by omega)
  clear c2
  have H' := mk0 H
  clear H
  go_enter Tryz.func64, Tryz.ntmps64
  go_wp2
  go_loopg [4, 5] k (fun kq v4 v5 w' => ∃ (x4_1 : List (S118)) (x5_1 : Int), v5 = .int .i64 x5_1 ∧ Aside0 (zad.l0 kq a0 x4_1 x5_1 = some (r1, r2)) ∧ Aside0 (kq ≤ k) ∧ Aside0 (Kd.R k118 118 w' w.heap.size (fun _ => True) v4 x4_1) ∧ Aside0 (Below w.heap.size w w'))
  case atStart => exact ⟨(([] : List (S118))), (0), (by first | rfl | (simp; done) | (simp [*]; done)), H', ⟨Nat.le_refl _⟩, ⟨by first | exact Kd.R_nil _ _ _ _ _ | exact Kd.N_nil _ _ _ _ _ | exact Kd.V_nil _ _ _ _ _ | exact Kd.Q_nil _ _ _ _ _ | exact Kd.S_nil _ _ _ _ _⟩, ⟨by exact bok HB.out⟩⟩
  case round =>
   clear H'
   obtain ⟨x4_1, x5_1, rfl, HA, HK1, HO_4, HB⟩ := hrel
   cases gk with
   | zero => exact absurd HA.out (by simp [zad.l0])
   | succ k1 =>
    have H := HA.out
    clear HA
    simp only [zad.l0] at H
    by_cases c3 : x5_1 < (a0.size : Int)
    ·
     rw [if_pos c3] at H
     have c3b0 : decide (x5_1 < (a0.size : Int)) = true := decide_eq_true c3
     clear c3
     by_cases c4 : 0 ≤ x5_1
     ·
      rw [if_pos c4] at H
      have c4b0 : decide (0 ≤ x5_1) = true := decide_eq_true c4
      clear c4
      by_cases c6 : (bt a0 x5_1) = 32
      ·
       rw [if_pos c6] at H
       have c6b0 : ((bt a0 x5_1) == 32) = true := beq_iff_eq.mpr c6
       have c6b1 : ((bt a0 x5_1) != 32) = false := bne_eq_false_iff_eq.mpr c6
       clear c6
       have H' := mk0 H
       clear H
       have p5 : 0 ≤ (x5_1 : Int) := of_decide_eq_true (by assumption)
       have q5 : x5_1 < (a0.size : Int) := of_decide_eq_true (by assumption)
       have hx5 := bt_at a0 x5_1
       replace p5 := eq_true p5
       replace q5 := eq_true q5
       go_wp2
       go_roundg k1
       case measure => have := HK1.out; omega
       case rel => exact ⟨(x4_1), (wrap64 (x5_1 + 1)), (by first | rfl | (simp; done) | (simp [*]; done)), H', ⟨by have := HK1.out; omega⟩, ⟨by exact rok HO_4.out⟩, ⟨by exact bok HB.out⟩⟩
      ·
       rw [if_neg c6] at H
       have c6b0 : ((bt a0 x5_1) == 32) = false := beq_eq_false_iff_ne.mpr c6
       have c6b1 : ((bt a0 x5_1) != 32) = true := bne_iff_ne.mpr c6
       have HC7 := mk0 H
       clear H
       have p5 : 0 ≤ (x5_1 : Int) := of_decide_eq_true (by assumption)
       have q5 : x5_1 < (a0.size : Int) := of_decide_eq_true (by assumption)
       have hx5 := bt_at a0 x5_1
       replace p5 := eq_true p5
       replace q5 := eq_true q5
       go_upto_region 9 with (fail)
       go_cut [31] (fun v31 wc => ∃ (kq : Nat) (x31_6 : Bool), v31 = .bool x31_6 ∧ Aside0 (zad.j1 kq a0 x4_1 x5_1 (bt a0 x5_1) x31_6 = some (r1, r2)) ∧ Aside0 (kq ≤ k1) ∧ Aside0 (Kd.R k118 118 wc w.heap.size (fun _ => True) u4 x4_1) ∧ Aside0 (Below w.heap.size w wc))
       case first =>
        have H := HC7.out
        clear HC7
        by_cases c8 : (bt a0 x5_1) ≥ 97
        ·
         rw [if_pos c8] at H
         have c8b0 : decide (97 ≤ (bt a0 x5_1)) = true := decide_eq_true c8
         clear c8
         (first | rw [c8b0] | (simp only [i64_w, i32_w]; rw [c8b0]) | skip)
         have H' := mk0 H
         clear H
         go_wp2
         go_meet
         case rel => exact ⟨_, (decide ((bt a0 x5_1) ≤ 122)), (by first | rfl | (simp; done) | (simp [*]; done)), H', ⟨by have := HK1.out; first | omega | exact Nat.le_refl _⟩, ⟨by exact rok HO_4.out⟩, ⟨by exact bok HB.out⟩⟩
        ·
         rw [if_neg c8] at H
         have c8b0 : decide (97 ≤ (bt a0 x5_1)) = false := decide_eq_false c8
         clear c8
         (first | rw [c8b0] | (simp only [i64_w, i32_w]; rw [c8b0]) | skip)
         have H' := mk0 H
         clear H
         go_wp2
         go_meet
         case rel => exact ⟨_, (false), (by first | rfl | (simp; done) | (simp [*]; done)), H', ⟨by have := HK1.out; first | omega | exact Nat.le_refl _⟩, ⟨by exact rok HO_4.out⟩, ⟨by exact bok HB.out⟩⟩
       case rest =>
        clear HC7
        obtain ⟨kq, x31_6, rfl, HA, HJ6, HO_4, HB⟩ := hcut
        cases kq with
        | zero => exact absurd HA.out (by simp [zad.j1])
        | succ kj6 =>
         have H := HA.out
         clear HA
         simp only [zad.j1] at H
         by_cases c9 : x31_6 = true
         ·
          subst c9
          have H1 : (if x4_1.length < 8796093022208 then (zad.l0 kj6 a0 (x4_1 ++ [(⟨2, ((bt a0 x5_1) - 97) % 256⟩ : S118)]) (wrap64 (x5_1 + 1))) else (none)) = some (r1, r2) := by rw [if_pos rfl] at H; exact H
          clear H
          have H := H1
          clear H1
          by_cases c10 : x4_1.length < 8796093022208
          ·
           rw [if_pos c10] at H
           have LMc10 := mk0 c10
           clear c10
           obtain ⟨y105, hy105⟩ : ∃ y_ : List (S118), y_ = (x4_1 ++ [(⟨2, ((bt a0 x5_1) - 97) % 256⟩ : S118)]) := ⟨_, rfl⟩
           replace H : (zad.l0 kj6 a0 y105 (wrap64 (x5_1 + 1))) = some (r1, r2) := by first | (rw [hy105]; with_reducible exact H) | (have H2_ := (Option.bind_some _ _).symm.trans H; rw [hy105]; with_reducible exact H2_) | (have H2_ := (Option.bind_some _ _).symm.trans H; with_reducible exact H2_) | with_reducible exact H | (rw [hy105]; exact H) | exact H
           have Ny105 := mk0 hy105
           clear hy105
           have H' := mk0 H
           clear H
           go_wp2_with (first | ((with_reducible refine gate_builtin (b := .append) (xs := #[.tmp 32, .tmp 37]) rfl ?_); (try (refine gate_guard (by rfl) ?_; dsimp only)); at_builtin; refine Kd.R_append k118 (w0 := w) w.heap.size rfl (.tmp 32) (.tmp 37) 71 118 (.agg #[(.int .i64 0), (.int .i64 0)]) 16 rfl Tryz.underlying71 info118 rfl (by decide) (by omega) u4 x4_1 (⟨2, ((bt a0 x5_1) - 97) % 256⟩ : S118) [.int .i64 2, .int .i64 (((bt a0 x5_1) - 97) % 256)] (fun _ => True) (fun _ => False) rfl rfl ?aP (fun _ hk => hk.elim) ?aF ?aO ?aB ?aS ?aL ?_; (case aP => exact k118_mkM _ _ _ (⟨2, ((bt a0 x5_1) - 97) % 256⟩ : S118)); (case aB => exact (by exact bok HB.out)); (case aF => exact (fun _ _ => trivial)); (case aO => exact (by exact rok HO_4.out)); (case aS => exact (below_size (by exact bok HB.out))); (case aL => have := LMc10.out; omega); intro v106 w11 ho hb hg hat; rw [← Ny105.out] at ho; have n0_ := mk0 (hb); have n1_ := mk0 (ho); clear HB; clear HO_4; have HB := n0_; have HO107 := n1_; clear n0_ n1_; clear ho hb hg hat))
           go_roundg kj6
           case measure => have := HK1.out; have := HJ6.out; omega
           case rel => exact ⟨(y105), (wrap64 (x5_1 + 1)), (by first | rfl | (simp; done) | (simp [*]; done)), H', ⟨by have := HK1.out; have := HJ6.out; omega⟩, ⟨by exact rok HO107.out⟩, ⟨by exact bok HB.out⟩⟩
          ·
           rw [if_neg c10] at H
           exact absurd H (by simp)
         ·
          replace c9 := Bool.eq_false_iff.mpr c9
          subst c9
          have H1 : (if (bt a0 x5_1) ≥ 48 then (zad.j2 kj6 a0 x4_1 x5_1 (bt a0 x5_1) (decide ((bt a0 x5_1) ≤ 57))) else (zad.j2 kj6 a0 x4_1 x5_1 (bt a0 x5_1) false)) = some (r1, r2) := by rw [if_neg (show ¬ (false = true) by decide)] at H; exact H
          clear H
          have H := H1
          clear H1
          have HC12 := mk0 H
          clear H
          go_upto_region 12 with (fail)
          go_cut [46] (fun v46 wc => ∃ (kq : Nat) (x46_11 : Bool), v46 = .bool x46_11 ∧ Aside0 (zad.j2 kq a0 x4_1 x5_1 (bt a0 x5_1) x46_11 = some (r1, r2)) ∧ Aside0 (kq ≤ kj6) ∧ Aside0 (Kd.R k118 118 wc w.heap.size (fun _ => True) u4 x4_1) ∧ Aside0 (Below w.heap.size w wc))
          case first =>
           have H := HC12.out
           clear HC12
           by_cases c13 : (bt a0 x5_1) ≥ 48
           ·
            rw [if_pos c13] at H
            have c13b0 : decide (48 ≤ (bt a0 x5_1)) = true := decide_eq_true c13
            clear c13
            (first | rw [c13b0] | (simp only [i64_w, i32_w]; rw [c13b0]) | skip)
            have H' := mk0 H
            clear H
            go_wp2
            go_meet
            case rel => exact ⟨_, (decide ((bt a0 x5_1) ≤ 57)), (by first | rfl | (simp; done) | (simp [*]; done)), H', ⟨by have := HK1.out; have := HJ6.out; first | omega | exact Nat.le_refl _⟩, ⟨by exact rok HO_4.out⟩, ⟨by exact bok HB.out⟩⟩
           ·
            rw [if_neg c13] at H
            have c13b0 : decide (48 ≤ (bt a0 x5_1)) = false := decide_eq_false c13
            clear c13
            (first | rw [c13b0] | (simp only [i64_w, i32_w]; rw [c13b0]) | skip)
            have H' := mk0 H
            clear H
            go_wp2
            go_meet
            case rel => exact ⟨_, (false), (by first | rfl | (simp; done) | (simp [*]; done)), H', ⟨by have := HK1.out; have := HJ6.out; first | omega | exact Nat.le_refl _⟩, ⟨by exact rok HO_4.out⟩, ⟨by exact bok HB.out⟩⟩
          case rest =>
           clear HC12
           obtain ⟨kq, x46_11, rfl, HA, HJ11, HO_4, HB⟩ := hcut
           cases kq with
           | zero => exact absurd HA.out (by simp [zad.j2])
           | succ kj11 =>
            have H := HA.out
            clear HA
            simp only [zad.j2] at H
            by_cases c14 : x46_11 = true
            ·
             subst c14
             have H1 : (zad.l1 kj11 a0 x4_1 x5_1 (bt a0 x5_1) x5_1 0) = some (r1, r2) := by rw [if_pos rfl] at H; exact H
             clear H
             have H := H1
             clear H1
             have HC15 := mk0 H
             clear H
             go_upto_block 2 with (fail)
             go_cut [7, 8] (fun v7 v8 wc => ∃ (kq : Nat) (x7_14 : Int) (x8_14 : Int), v7 = .int .i64 x7_14 ∧ v8 = .int .i64 x8_14 ∧ Aside0 (zad.j4 kq a0 x4_1 x5_1 (bt a0 x5_1) x7_14 x8_14 = some (r1, r2)) ∧ Aside0 (kq ≤ kj11) ∧ Aside0 (Kd.R k118 118 wc w.heap.size (fun _ => True) u4 x4_1) ∧ Aside0 (Below w.heap.size w wc))
             case first =>
              have H := HC15.out
              clear HC15
              have H' := mk0 H
              clear H
              go_wp2
              go_loopg [7, 8] kj11 (fun kq v7 v8 w' => ∃ (x7_4 : Int) (x8_4 : Int), v7 = .int .i64 x7_4 ∧ v8 = .int .i64 x8_4 ∧ Aside0 (zad.l1 kq a0 x4_1 x5_1 (bt a0 x5_1) x7_4 x8_4 = some (r1, r2)) ∧ Aside0 (kq ≤ kj11) ∧ Aside0 (Kd.R k118 118 w' w.heap.size (fun _ => True) u4 x4_1) ∧ Aside0 (Below w.heap.size w w'))
              case atStart => exact ⟨(x5_1), (0), (by first | rfl | (simp; done) | (simp [*]; done)), (by first | rfl | (simp; done) | (simp [*]; done)), H', ⟨Nat.le_refl _⟩, ⟨by exact rok HO_4.out⟩, ⟨by exact bok HB.out⟩⟩
              case round =>
               clear H'
               obtain ⟨x7_4, x8_4, rfl, rfl, HA, HK4, HO_4, HB⟩ := hrel
               cases gk with
               | zero => exact absurd HA.out (by simp [zad.l1])
               | succ k4 =>
                have H := HA.out
                clear HA
                simp only [zad.l1] at H
                by_cases c16 : x7_4 < (a0.size : Int)
                ·
                 rw [if_pos c16] at H
                 have c16b0 : decide (x7_4 < (a0.size : Int)) = true := decide_eq_true c16
                 clear c16
                 (first | rw [c16b0] | (simp only [i64_w, i32_w]; rw [c16b0]) | skip)
                 by_cases c17 : 0 ≤ x7_4
                 ·
                  rw [if_pos c17] at H
                  have c17b0 : decide (0 ≤ x7_4) = true := decide_eq_true c17
                  clear c17
                  by_cases c19 : (bt a0 x7_4) ≥ 48
                  ·
                   rw [if_pos c19] at H
                   have c19b0 : decide (48 ≤ (bt a0 x7_4)) = true := decide_eq_true c19
                   clear c19
                   by_cases c21 : (bt a0 x7_4) ≤ 57
                   ·
                    rw [if_pos c21] at H
                    have c21b0 : decide ((bt a0 x7_4) ≤ 57) = true := decide_eq_true c21
                    clear c21
                    obtain ⟨ji23, hji23⟩ : ∃ j_ : Int, (mn (wrap64 ((wrap64 (10 * x8_4)) + (((bt a0 x7_4) - 48) % 256))) 2147483648) = j_ := ⟨_, rfl⟩
                    replace H : (zad.l1 k4 a0 x4_1 x5_1 (bt a0 x5_1) (wrap64 (x7_4 + 1)) ji23) = some (r1, r2) := by first | (rw [hji23] at H; exact H) | (simp only [hji23] at H ⊢; exact H)
                    have hji23_ : (if 2147483648 < (wrap64 ((wrap64 (10 * x8_4)) + (((bt a0 x7_4) - 48) % 256))) then 2147483648 else (wrap64 ((wrap64 (10 * x8_4)) + (((bt a0 x7_4) - 48) % 256)))) = ji23 := hji23
                    have H' := mk0 H
                    clear H
                    have p18 : 0 ≤ (x7_4 : Int) := of_decide_eq_true (by assumption)
                    have q18 : x7_4 < (a0.size : Int) := of_decide_eq_true (by assumption)
                    have hx18 := bt_at a0 x7_4
                    replace p18 := eq_true p18
                    replace q18 := eq_true q18
                    have p20 : 0 ≤ (x7_4 : Int) := of_decide_eq_true (by assumption)
                    have q20 : x7_4 < (a0.size : Int) := of_decide_eq_true (by assumption)
                    have hx20 := bt_at a0 x7_4
                    replace p20 := eq_true p20
                    replace q20 := eq_true q20
                    have p22 : 0 ≤ (x7_4 : Int) := of_decide_eq_true (by assumption)
                    have q22 : x7_4 < (a0.size : Int) := of_decide_eq_true (by assumption)
                    have hx22 := bt_at a0 x7_4
                    replace p22 := eq_true p22
                    replace q22 := eq_true q22
                    go_wp2
                    go_roundg k4
                    case measure => have := HK1.out; have := HJ6.out; have := HJ11.out; have := HK4.out; omega
                    case rel => exact ⟨(wrap64 (x7_4 + 1)), (ji23), (by first | rfl | (simp; done) | (simp [*]; done)), (by first | rfl | (simp; done) | (simp only [← hji23] <;> (first | rfl | simp)) | (simp [*]; done)), H', ⟨by have := HK1.out; have := HJ6.out; have := HJ11.out; have := HK4.out; omega⟩, ⟨by exact rok HO_4.out⟩, ⟨by exact bok HB.out⟩⟩
                   ·
                    rw [if_neg c21] at H
                    have c21b0 : decide ((bt a0 x7_4) ≤ 57) = false := decide_eq_false c21
                    clear c21
                    have H' := mk0 H
                    clear H
                    have p18 : 0 ≤ (x7_4 : Int) := of_decide_eq_true (by assumption)
                    have q18 : x7_4 < (a0.size : Int) := of_decide_eq_true (by assumption)
                    have hx18 := bt_at a0 x7_4
                    replace p18 := eq_true p18
                    replace q18 := eq_true q18
                    have p20 : 0 ≤ (x7_4 : Int) := of_decide_eq_true (by assumption)
                    have q20 : x7_4 < (a0.size : Int) := of_decide_eq_true (by assumption)
                    have hx20 := bt_at a0 x7_4
                    replace p20 := eq_true p20
                    replace q20 := eq_true q20
                    go_wp2
                    go_meet
                    case rel => exact ⟨_, (x7_4), (x8_4), (by first | rfl | (simp; done) | (simp [*]; done)), (by first | rfl | (simp; done) | (simp [*]; done)), H', ⟨by have := HK1.out; have := HJ6.out; have := HJ11.out; have := HK4.out; first | omega | exact Nat.le_refl _⟩, ⟨by exact rok HO_4.out⟩, ⟨by exact bok HB.out⟩⟩
                  ·
                   rw [if_neg c19] at H
                   have c19b0 : decide (48 ≤ (bt a0 x7_4)) = false := decide_eq_false c19
                   clear c19
                   have H' := mk0 H
                   clear H
                   have p18 : 0 ≤ (x7_4 : Int) := of_decide_eq_true (by assumption)
                   have q18 : x7_4 < (a0.size : Int) := of_decide_eq_true (by assumption)
                   have hx18 := bt_at a0 x7_4
                   replace p18 := eq_true p18
                   replace q18 := eq_true q18
                   go_wp2
                   go_meet
                   case rel => exact ⟨_, (x7_4), (x8_4), (by first | rfl | (simp; done) | (simp [*]; done)), (by first | rfl | (simp; done) | (simp [*]; done)), H', ⟨by have := HK1.out; have := HJ6.out; have := HJ11.out; have := HK4.out; first | omega | exact Nat.le_refl _⟩, ⟨by exact rok HO_4.out⟩, ⟨by exact bok HB.out⟩⟩
                 ·
                  rw [if_neg c17] at H
                  exact absurd H (by simp)
                ·
                 rw [if_neg c16] at H
                 have c16b0 : decide (x7_4 < (a0.size : Int)) = false := decide_eq_false c16
                 clear c16
                 (first | rw [c16b0] | (simp only [i64_w, i32_w]; rw [c16b0]) | skip)
                 have H' := mk0 H
                 clear H
                 go_wp2
                 go_meet
                 case rel => exact ⟨_, (x7_4), (x8_4), (by first | rfl | (simp; done) | (simp [*]; done)), (by first | rfl | (simp; done) | (simp [*]; done)), H', ⟨by have := HK1.out; have := HJ6.out; have := HJ11.out; have := HK4.out; first | omega | exact Nat.le_refl _⟩, ⟨by exact rok HO_4.out⟩, ⟨by exact bok HB.out⟩⟩
             case rest =>
              clear HC15
              obtain ⟨kq, x7_14, x8_14, rfl, rfl, HA, HJ14, HO_4, HB⟩ := hcut
              cases kq with
              | zero => exact absurd HA.out (by simp [zad.j4])
              | succ kj14 =>
               have H := HA.out
               clear HA
               simp only [zad.j4] at H
               have HC24 := mk0 H
               clear H
               go_upto_region 17 with (fail)
               go_cut [82] (fun v82 wc => ∃ (kq : Nat) (x82_23 : Bool), v82 = .bool x82_23 ∧ Aside0 (zad.j5 kq a0 x4_1 x7_14 x8_14 x82_23 = some (r1, r2)) ∧ Aside0 (kq ≤ kj14) ∧ Aside0 (Kd.R k118 118 wc w.heap.size (fun _ => True) u4 x4_1) ∧ Aside0 (Below w.heap.size w wc))
               case first =>
                have H := HC24.out
                clear HC24
                by_cases c25 : (bt a0 x5_1) = 48
                ·
                 rw [if_pos c25] at H
                 have c25b0 : ((bt a0 x5_1) == 48) = true := beq_iff_eq.mpr c25
                 have c25b1 : ((bt a0 x5_1) != 48) = false := bne_eq_false_iff_eq.mpr c25
                 clear c25
                 (first | rw [c25b0] | (simp only [i64_w, i32_w]; rw [c25b0]) | skip)
                 have H' := mk0 H
                 clear H
                 go_wp2
                 go_meet
                 case rel => exact ⟨_, (decide (x7_14 > (wrap64 (x5_1 + 1)))), (by first | rfl | (simp; done) | (simp [*]; done)), H', ⟨by have := HK1.out; have := HJ6.out; have := HJ11.out; have := HJ14.out; first | omega | exact Nat.le_refl _⟩, ⟨by exact rok HO_4.out⟩, ⟨by exact bok HB.out⟩⟩
                ·
                 rw [if_neg c25] at H
                 have c25b0 : ((bt a0 x5_1) == 48) = false := beq_eq_false_iff_ne.mpr c25
                 have c25b1 : ((bt a0 x5_1) != 48) = true := bne_iff_ne.mpr c25
                 (first | rw [c25b0] | (simp only [i64_w, i32_w]; rw [c25b0]) | skip)
                 have H' := mk0 H
                 clear H
                 go_wp2
                 go_meet
                 case rel => exact ⟨_, (false), (by first | rfl | (simp; done) | (simp [*]; done)), H', ⟨by have := HK1.out; have := HJ6.out; have := HJ11.out; have := HJ14.out; first | omega | exact Nat.le_refl _⟩, ⟨by exact rok HO_4.out⟩, ⟨by exact bok HB.out⟩⟩
               case rest =>
                clear HC24
                obtain ⟨kq, x82_23, rfl, HA, HJ23, HO_4, HB⟩ := hcut
                cases kq with
                | zero => exact absurd HA.out (by simp [zad.j5])
                | succ kj23 =>
                 have H := HA.out
                 clear HA
                 simp only [zad.j5] at H
                 by_cases c26 : x82_23 = true
                 ·
                  subst c26
                  have H1 : (some (([] : List (S118)), 2)) = some (r1, r2) := by rw [if_pos rfl] at H; exact H
                  clear H
                  have H := H1
                  clear H1
                  simp only [Option.some.injEq, Prod.mk.injEq] at H
                  obtain ⟨rfl, rfl⟩ := H
                  go_wp2
                  go_ret2
                  exact ⟨_, by first | rfl | (simp [*, zbe, zbf] <;> rfl), by first | exact Kd.R_nil _ _ _ _ _ | exact Kd.N_nil _ _ _ _ _ | exact Kd.V_nil _ _ _ _ _ | exact Kd.Q_nil _ _ _ _ _ | exact Kd.S_nil _ _ _ _ _, by exact bok HB.out⟩
                 ·
                  replace c26 := Bool.eq_false_iff.mpr c26
                  subst c26
                  have H1 : (if x8_14 > 2147483647 then (some (([] : List (S118)), 3)) else (if x4_1.length < 8796093022208 then (zad.l0 kj23 a0 (x4_1 ++ [(⟨1, x8_14⟩ : S118)]) x7_14) else (none))) = some (r1, r2) := by rw [if_neg (show ¬ (false = true) by decide)] at H; exact H
                  clear H
                  have H := H1
                  clear H1
                  by_cases c27 : x8_14 > 2147483647
                  ·
                   rw [if_pos c27] at H
                   have c27b0 : decide (2147483647 < x8_14) = true := decide_eq_true c27
                   clear c27
                   simp only [Option.some.injEq, Prod.mk.injEq] at H
                   obtain ⟨rfl, rfl⟩ := H
                   go_wp2
                   go_ret2
                   exact ⟨_, by first | rfl | (simp [*, zbe, zbf] <;> rfl), by first | exact Kd.R_nil _ _ _ _ _ | exact Kd.N_nil _ _ _ _ _ | exact Kd.V_nil _ _ _ _ _ | exact Kd.Q_nil _ _ _ _ _ | exact Kd.S_nil _ _ _ _ _, by exact bok HB.out⟩
                  ·
                   rw [if_neg c27] at H
                   have c27b0 : decide (2147483647 < x8_14) = false := decide_eq_false c27
                   clear c27
                   by_cases c28 : x4_1.length < 8796093022208
                   ·
                    rw [if_pos c28] at H
                    have LMc28 := mk0 c28
                    clear c28
                    obtain ⟨y108, hy108⟩ : ∃ y_ : List (S118), y_ = (x4_1 ++ [(⟨1, x8_14⟩ : S118)]) := ⟨_, rfl⟩
                    replace H : (zad.l0 kj23 a0 y108 x7_14) = some (r1, r2) := by first | (rw [hy108]; with_reducible exact H) | (have H2_ := (Option.bind_some _ _).symm.trans H; rw [hy108]; with_reducible exact H2_) | (have H2_ := (Option.bind_some _ _).symm.trans H; with_reducible exact H2_) | with_reducible exact H | (rw [hy108]; exact H) | exact H
                    have Ny108 := mk0 hy108
                    clear hy108
                    have H' := mk0 H
                    clear H
                    go_wp2_with (first | ((with_reducible refine gate_builtin (b := .append) (xs := #[.tmp 85, .tmp 88]) rfl ?_); (try (refine gate_guard (by rfl) ?_; dsimp only)); at_builtin; refine Kd.R_append k118 (w0 := w) w.heap.size rfl (.tmp 85) (.tmp 88) 71 118 (.agg #[(.int .i64 0), (.int .i64 0)]) 16 rfl Tryz.underlying71 info118 rfl (by decide) (by omega) u4 x4_1 (⟨1, x8_14⟩ : S118) [.int .i64 1, .int .i64 x8_14] (fun _ => True) (fun _ => False) rfl rfl ?aP (fun _ hk => hk.elim) ?aF ?aO ?aB ?aS ?aL ?_; (case aP => exact k118_mkM _ _ _ (⟨1, x8_14⟩ : S118)); (case aB => exact (by exact bok HB.out)); (case aF => exact (fun _ _ => trivial)); (case aO => exact (by exact rok HO_4.out)); (case aS => exact (below_size (by exact bok HB.out))); (case aL => have := LMc28.out; omega); intro v109 w29 ho hb hg hat; rw [← Ny108.out] at ho; have n0_ := mk0 (hb); have n1_ := mk0 (ho); clear HB; clear HO_4; have HB := n0_; have HO110 := n1_; clear n0_ n1_; clear ho hb hg hat))
                    go_roundg kj23
                    case measure => have := HK1.out; have := HJ6.out; have := HJ11.out; have := HJ14.out; have := HJ23.out; omega
                    case rel => exact ⟨(y108), (x7_14), (by first | rfl | (simp; done) | (simp [*]; done)), H', ⟨by have := HK1.out; have := HJ6.out; have := HJ11.out; have := HJ14.out; have := HJ23.out; omega⟩, ⟨by exact rok HO110.out⟩, ⟨by exact bok HB.out⟩⟩
                   ·
                    rw [if_neg c28] at H
                    exact absurd H (by simp)
            ·
             replace c14 := Bool.eq_false_iff.mpr c14
             subst c14
             have H1 : (zad.l2 kj11 a0 x4_1 x5_1 0 3) = some (r1, r2) := by rw [if_neg (show ¬ (false = true) by decide)] at H; exact H
             clear H
             have H := H1
             clear H1
             have H' := mk0 H
             clear H
             go_wp2
             go_loopg [9, 10] kj11 (fun kq v9 v10 w' => ∃ (x9_4 : Int) (x10_4 : Int), v9 = .int .i64 x9_4 ∧ v10 = .int .i64 x10_4 ∧ Aside0 (zad.l2 kq a0 x4_1 x5_1 x9_4 x10_4 = some (r1, r2)) ∧ Aside0 (kq ≤ kj11) ∧ Aside0 (Kd.R k118 118 w' w.heap.size (fun _ => True) u4 x4_1) ∧ Aside0 (Below w.heap.size w w'))
             case atStart => exact ⟨(0), (3), (by first | rfl | (simp; done) | (simp [*]; done)), (by first | rfl | (simp; done) | (simp [*]; done)), H', ⟨Nat.le_refl _⟩, ⟨by exact rok HO_4.out⟩, ⟨by exact bok HB.out⟩⟩
             case round =>
              clear H'
              obtain ⟨x9_4, x10_4, rfl, rfl, HA, HK4, HO_4, HB⟩ := hrel
              cases gk with
              | zero => exact absurd HA.out (by simp [zad.l2])
              | succ k4 =>
               have H := HA.out
               clear HA
               simp only [zad.l2] at H
               by_cases c30 : x10_4 ≤ 18
               ·
                rw [if_pos c30] at H
                have c30b0 : decide (x10_4 ≤ 18) = true := decide_eq_true c30
                clear c30
                replace H := Option.bind_eq_some_iff.mp H
                obtain ⟨t115, A310, H⟩ := H
                replace H : (if (wrap64 ((a0.size : Int) - x5_1)) ≥ (t115.size : Int) then (if 0 ≤ x5_1 then (if x5_1 ≤ (wrap64 (x5_1 + (t115.size : Int))) then (if (wrap64 (x5_1 + (t115.size : Int))) ≤ (a0.size : Int) then (if (a0.extract (x5_1 : Int).toNat ((wrap64 (x5_1 + (t115.size : Int))) : Int).toNat).toList = t115.toList then (if x9_4 = 0 then (zad.l2 k4 a0 x4_1 x5_1 x10_4 (wrap64 (x10_4 + 1))) else ((zaz.f x9_4).bind fun t116 => (if (t115.size : Int) > (t116.size : Int) then (zad.l2 k4 a0 x4_1 x5_1 x10_4 (wrap64 (x10_4 + 1))) else (zad.l2 k4 a0 x4_1 x5_1 x9_4 (wrap64 (x10_4 + 1)))))) else (zad.l2 k4 a0 x4_1 x5_1 x9_4 (wrap64 (x10_4 + 1)))) else (none)) else (none)) else (none)) else (zad.l2 k4 a0 x4_1 x5_1 x9_4 (wrap64 (x10_4 + 1)))) = some (r1, r2) := H
                have A31 := mk0 A310
                clear A310
                by_cases c32 : (wrap64 ((a0.size : Int) - x5_1)) ≥ (t115.size : Int)
                ·
                 rw [if_pos c32] at H
                 have c32b0 : decide ((t115.size : Int) ≤ (wrap64 ((a0.size : Int) - x5_1))) = true := decide_eq_true c32
                 clear c32
                 by_cases c33 : 0 ≤ x5_1
                 ·
                  rw [if_pos c33] at H
                  have c33b0 := eq_true c33
                  have c33b1 : decide (0 ≤ x5_1) = true := decide_eq_true c33
                  clear c33
                  by_cases c34 : x5_1 ≤ (wrap64 (x5_1 + (t115.size : Int)))
                  ·
                   rw [if_pos c34] at H
                   have c34b0 := eq_true c34
                   have c34b1 : decide (x5_1 ≤ (wrap64 (x5_1 + (t115.size : Int)))) = true := decide_eq_true c34
                   by_cases c35 : (wrap64 (x5_1 + (t115.size : Int))) ≤ (a0.size : Int)
                   ·
                    rw [if_pos c35] at H
                    have c35b0 := eq_true c35
                    have c35b1 : decide ((wrap64 (x5_1 + (t115.size : Int))) ≤ (a0.size : Int)) = true := decide_eq_true c35
                    by_cases c36 : (a0.extract (x5_1 : Int).toNat ((wrap64 (x5_1 + (t115.size : Int))) : Int).toNat).toList = t115.toList
                    ·
                     rw [if_pos c36] at H
                     have c36b0 : ((a0.extract (x5_1 : Int).toNat ((wrap64 (x5_1 + (t115.size : Int))) : Int).toNat).toList == t115.toList) = true := beq_iff_eq.mpr c36
                     have c36b1 : ((a0.extract (x5_1 : Int).toNat ((wrap64 (x5_1 + (t115.size : Int))) : Int).toNat).toList != t115.toList) = false := bne_eq_false_iff_eq.mpr c36
                     clear c36
                     by_cases c37 : x9_4 = 0
                     ·
                      rw [if_pos c37] at H
                      have c37b0 : (x9_4 == 0) = true := beq_iff_eq.mpr c37
                      have c37b1 : (x9_4 != 0) = false := bne_eq_false_iff_eq.mpr c37
                      clear c37
                      have H' := mk0 H
                      clear H
                      go_wp2_with (first | ((with_reducible refine gate_callee (f := 86) rfl ?_); refine goesL_ (some 96) rfl rfl Tryz.func86 (by kernel_rfl) rfl #[.int .i64 x10_4] rfl (by (try simp only [List.map_toArray, List.map_cons, List.map_nil]); first | done | rfl | (simp only [List.length_drop, List.length_take]; rfl)) ?_; (with_reducible refine (zaz.calls x10_4 t115 _ A31.out).mono ?_); rintro e w38 ⟨rfl, hb⟩; refine ⟨_, rfl, ?_⟩; have n0_ := mk0 (Kd.R_below (by exact rok HO_4.out) hb); have n1_ := mk0 (bst HB.out hb); clear HO_4; clear HB; have HO_4 := n0_; have HB := n1_; clear n0_ n1_; (try clear hb)))
                      go_roundg k4
                      case measure => have := HK1.out; have := HJ6.out; have := HJ11.out; have := HK4.out; omega
                      case rel => exact ⟨(x10_4), (wrap64 (x10_4 + 1)), (by first | rfl | (simp; done) | (simp [*]; done)), (by first | rfl | (simp; done) | (simp [*]; done)), H', ⟨by have := HK1.out; have := HJ6.out; have := HJ11.out; have := HK4.out; omega⟩, ⟨by exact rok HO_4.out⟩, ⟨by exact bok HB.out⟩⟩
                     ·
                      rw [if_neg c37] at H
                      have c37b0 : (x9_4 == 0) = false := beq_eq_false_iff_ne.mpr c37
                      have c37b1 : (x9_4 != 0) = true := bne_iff_ne.mpr c37
                      replace H := Option.bind_eq_some_iff.mp H
                      obtain ⟨t116, A390, H⟩ := H
                      replace H : (if (t115.size : Int) > (t116.size : Int) then (zad.l2 k4 a0 x4_1 x5_1 x10_4 (wrap64 (x10_4 + 1))) else (zad.l2 k4 a0 x4_1 x5_1 x9_4 (wrap64 (x10_4 + 1)))) = some (r1, r2) := H
                      have A39 := mk0 A390
                      clear A390
                      by_cases c40 : (t115.size : Int) > (t116.size : Int)
                      ·
                       rw [if_pos c40] at H
                       have c40b0 : decide ((t116.size : Int) < (t115.size : Int)) = true := decide_eq_true c40
                       have c40b1 : decide (t116.size < t115.size) = true := decide_eq_true (Int.ofNat_lt.mp c40)
                       clear c40
                       have H' := mk0 H
                       clear H
                       go_wp2_with (first | ((with_reducible refine gate_callee (f := 86) rfl ?_); refine goesL_ (some 96) rfl rfl Tryz.func86 (by kernel_rfl) rfl #[.int .i64 x10_4] rfl (by (try simp only [List.map_toArray, List.map_cons, List.map_nil]); first | done | rfl | (simp only [List.length_drop, List.length_take]; rfl)) ?_; (with_reducible refine (zaz.calls x10_4 t115 _ A31.out).mono ?_); rintro e w41 ⟨rfl, hb⟩; refine ⟨_, rfl, ?_⟩; have n0_ := mk0 (Kd.R_below (by exact rok HO_4.out) hb); have n1_ := mk0 (bst HB.out hb); clear HO_4; clear HB; have HO_4 := n0_; have HB := n1_; clear n0_ n1_; (try clear hb)) | (go_at_call 86; (with_reducible refine (zaz.calls x9_4 t116 _ A39.out).mono ?_); rintro e w42 ⟨rfl, hb⟩; have n0_ := mk0 (Kd.R_below (by exact rok HO_4.out) hb); have n1_ := mk0 (bst HB.out hb); clear HO_4; clear HB; have HO_4 := n0_; have HB := n1_; clear n0_ n1_; (try clear hb)))
                       go_roundg k4
                       case measure => have := HK1.out; have := HJ6.out; have := HJ11.out; have := HK4.out; omega
                       case rel => exact ⟨(x10_4), (wrap64 (x10_4 + 1)), (by first | rfl | (simp; done) | (simp [*]; done)), (by first | rfl | (simp; done) | (simp [*]; done)), H', ⟨by have := HK1.out; have := HJ6.out; have := HJ11.out; have := HK4.out; omega⟩, ⟨by exact rok HO_4.out⟩, ⟨by exact bok HB.out⟩⟩
                      ·
                       rw [if_neg c40] at H
                       have c40b0 : decide ((t116.size : Int) < (t115.size : Int)) = false := decide_eq_false c40
                       have c40b1 : decide (t116.size < t115.size) = false := decide_eq_false (fun h => c40 (Int.ofNat_lt.mpr h))
                       clear c40
                       have H' := mk0 H
                       clear H
                       go_wp2_with (first | ((with_reducible refine gate_callee (f := 86) rfl ?_); refine goesL_ (some 96) rfl rfl Tryz.func86 (by kernel_rfl) rfl #[.int .i64 x10_4] rfl (by (try simp only [List.map_toArray, List.map_cons, List.map_nil]); first | done | rfl | (simp only [List.length_drop, List.length_take]; rfl)) ?_; (with_reducible refine (zaz.calls x10_4 t115 _ A31.out).mono ?_); rintro e w43 ⟨rfl, hb⟩; refine ⟨_, rfl, ?_⟩; have n0_ := mk0 (Kd.R_below (by exact rok HO_4.out) hb); have n1_ := mk0 (bst HB.out hb); clear HO_4; clear HB; have HO_4 := n0_; have HB := n1_; clear n0_ n1_; (try clear hb)) | (go_at_call 86; (with_reducible refine (zaz.calls x9_4 t116 _ A39.out).mono ?_); rintro e w44 ⟨rfl, hb⟩; have n0_ := mk0 (Kd.R_below (by exact rok HO_4.out) hb); have n1_ := mk0 (bst HB.out hb); clear HO_4; clear HB; have HO_4 := n0_; have HB := n1_; clear n0_ n1_; (try clear hb)))
                       go_roundg k4
                       case measure => have := HK1.out; have := HJ6.out; have := HJ11.out; have := HK4.out; omega
                       case rel => exact ⟨(x9_4), (wrap64 (x10_4 + 1)), (by first | rfl | (simp; done) | (simp [*]; done)), (by first | rfl | (simp; done) | (simp [*]; done)), H', ⟨by have := HK1.out; have := HJ6.out; have := HJ11.out; have := HK4.out; omega⟩, ⟨by exact rok HO_4.out⟩, ⟨by exact bok HB.out⟩⟩
                    ·
                     rw [if_neg c36] at H
                     have c36b0 : ((a0.extract (x5_1 : Int).toNat ((wrap64 (x5_1 + (t115.size : Int))) : Int).toNat).toList == t115.toList) = false := beq_eq_false_iff_ne.mpr c36
                     have c36b1 : ((a0.extract (x5_1 : Int).toNat ((wrap64 (x5_1 + (t115.size : Int))) : Int).toNat).toList != t115.toList) = true := bne_iff_ne.mpr c36
                     have H' := mk0 H
                     clear H
                     go_wp2_with (first | ((with_reducible refine gate_callee (f := 86) rfl ?_); refine goesL_ (some 96) rfl rfl Tryz.func86 (by kernel_rfl) rfl #[.int .i64 x10_4] rfl (by (try simp only [List.map_toArray, List.map_cons, List.map_nil]); first | done | rfl | (simp only [List.length_drop, List.length_take]; rfl)) ?_; (with_reducible refine (zaz.calls x10_4 t115 _ A31.out).mono ?_); rintro e w45 ⟨rfl, hb⟩; refine ⟨_, rfl, ?_⟩; have n0_ := mk0 (Kd.R_below (by exact rok HO_4.out) hb); have n1_ := mk0 (bst HB.out hb); clear HO_4; clear HB; have HO_4 := n0_; have HB := n1_; clear n0_ n1_; (try clear hb)))
                     go_roundg k4
                     case measure => have := HK1.out; have := HJ6.out; have := HJ11.out; have := HK4.out; omega
                     case rel => exact ⟨(x9_4), (wrap64 (x10_4 + 1)), (by first | rfl | (simp; done) | (simp [*]; done)), (by first | rfl | (simp; done) | (simp [*]; done)), H', ⟨by have := HK1.out; have := HJ6.out; have := HJ11.out; have := HK4.out; omega⟩, ⟨by exact rok HO_4.out⟩, ⟨by exact bok HB.out⟩⟩
                   ·
                    rw [if_neg c35] at H
                    exact absurd H (by simp)
                  ·
                   rw [if_neg c34] at H
                   exact absurd H (by simp)
                 ·
                  rw [if_neg c33] at H
                  exact absurd H (by simp)
                ·
                 rw [if_neg c32] at H
                 have c32b0 : decide ((t115.size : Int) ≤ (wrap64 ((a0.size : Int) - x5_1))) = false := decide_eq_false c32
                 clear c32
                 have H' := mk0 H
                 clear H
                 go_wp2_with (first | ((with_reducible refine gate_callee (f := 86) rfl ?_); refine goesL_ (some 96) rfl rfl Tryz.func86 (by kernel_rfl) rfl #[.int .i64 x10_4] rfl (by (try simp only [List.map_toArray, List.map_cons, List.map_nil]); first | done | rfl | (simp only [List.length_drop, List.length_take]; rfl)) ?_; (with_reducible refine (zaz.calls x10_4 t115 _ A31.out).mono ?_); rintro e w46 ⟨rfl, hb⟩; refine ⟨_, rfl, ?_⟩; have n0_ := mk0 (Kd.R_below (by exact rok HO_4.out) hb); have n1_ := mk0 (bst HB.out hb); clear HO_4; clear HB; have HO_4 := n0_; have HB := n1_; clear n0_ n1_; (try clear hb)))
                 go_roundg k4
                 case measure => have := HK1.out; have := HJ6.out; have := HJ11.out; have := HK4.out; omega
                 case rel => exact ⟨(x9_4), (wrap64 (x10_4 + 1)), (by first | rfl | (simp; done) | (simp [*]; done)), (by first | rfl | (simp; done) | (simp [*]; done)), H', ⟨by have := HK1.out; have := HJ6.out; have := HJ11.out; have := HK4.out; omega⟩, ⟨by exact rok HO_4.out⟩, ⟨by exact bok HB.out⟩⟩
               ·
                rw [if_neg c30] at H
                have c30b0 : decide (x10_4 ≤ 18) = false := decide_eq_false c30
                clear c30
                by_cases c47 : x9_4 = 0
                ·
                 rw [if_pos c47] at H
                 have c47b0 : (x9_4 == 0) = true := beq_iff_eq.mpr c47
                 have c47b1 : (x9_4 != 0) = false := bne_eq_false_iff_eq.mpr c47
                 clear c47
                 simp only [Option.some.injEq, Prod.mk.injEq] at H
                 obtain ⟨rfl, rfl⟩ := H
                 go_wp2
                 go_ret2
                 exact ⟨_, by first | rfl | (simp [*, zbe, zbf] <;> rfl), by first | exact Kd.R_nil _ _ _ _ _ | exact Kd.N_nil _ _ _ _ _ | exact Kd.V_nil _ _ _ _ _ | exact Kd.Q_nil _ _ _ _ _ | exact Kd.S_nil _ _ _ _ _, by exact bok HB.out⟩
                ·
                 rw [if_neg c47] at H
                 have c47b0 : (x9_4 == 0) = false := beq_eq_false_iff_ne.mpr c47
                 have c47b1 : (x9_4 != 0) = true := bne_iff_ne.mpr c47
                 by_cases c48 : x4_1.length < 8796093022208
                 ·
                  rw [if_pos c48] at H
                  have LMc48 := mk0 c48
                  clear c48
                  obtain ⟨y111, hy111⟩ : ∃ y_ : List (S118), y_ = (x4_1 ++ [(⟨x9_4, 0⟩ : S118)]) := ⟨_, rfl⟩
                  replace H : ((zaz.f x9_4).bind fun t114 => (zad.l0 k4 a0 y111 (wrap64 (x5_1 + (t114.size : Int))))) = some (r1, r2) := by first | (rw [hy111]; with_reducible exact H) | (have H2_ := (Option.bind_some _ _).symm.trans H; rw [hy111]; with_reducible exact H2_) | (have H2_ := (Option.bind_some _ _).symm.trans H; with_reducible exact H2_) | with_reducible exact H | (rw [hy111]; exact H) | exact H
                  have Ny111 := mk0 hy111
                  clear hy111
                  replace H := Option.bind_eq_some_iff.mp H
                  obtain ⟨t114, A490, H⟩ := H
                  replace H : (zad.l0 k4 a0 y111 (wrap64 (x5_1 + (t114.size : Int)))) = some (r1, r2) := H
                  have A49 := mk0 A490
                  clear A490
                  have H' := mk0 H
                  clear H
                  go_wp2_with (first | ((with_reducible refine gate_builtin (b := .append) (xs := #[.tmp 130, .tmp 133]) rfl ?_); (try (refine gate_guard (by rfl) ?_; dsimp only)); at_builtin; refine Kd.R_append k118 (w0 := w) w.heap.size rfl (.tmp 130) (.tmp 133) 71 118 (.agg #[(.int .i64 0), (.int .i64 0)]) 16 rfl Tryz.underlying71 info118 rfl (by decide) (by omega) u4 x4_1 (⟨x9_4, 0⟩ : S118) [.int .i64 x9_4, .int .i64 0] (fun _ => True) (fun _ => False) rfl rfl ?aP (fun _ hk => hk.elim) ?aF ?aO ?aB ?aS ?aL ?_; (case aP => exact k118_mkM _ _ _ (⟨x9_4, 0⟩ : S118)); (case aB => exact (by exact bok HB.out)); (case aF => exact (fun _ _ => trivial)); (case aO => exact (by exact rok HO_4.out)); (case aS => exact (below_size (by exact bok HB.out))); (case aL => have := LMc48.out; omega); intro v112 w50 ho hb hg hat; rw [← Ny111.out] at ho; have n0_ := mk0 (hb); have n1_ := mk0 (ho); clear HB; clear HO_4; have HB := n0_; have HO113 := n1_; clear n0_ n1_; clear ho hb hg hat) | ((with_reducible refine gate_callee (f := 86) rfl ?_); refine goesL_ (some 137) rfl rfl Tryz.func86 (by kernel_rfl) rfl #[.int .i64 x9_4] rfl (by (try simp only [List.map_toArray, List.map_cons, List.map_nil]); first | done | rfl | (simp only [List.length_drop, List.length_take]; rfl)) ?_; (with_reducible refine (zaz.calls x9_4 t114 _ A49.out).mono ?_); rintro e w51 ⟨rfl, hb⟩; refine ⟨_, rfl, ?_⟩; have n0_ := mk0 (Kd.R_below (by exact rok HO113.out) hb); have n1_ := mk0 (bst HB.out hb); clear HO113; clear HB; have HO113 := n0_; have HB := n1_; clear n0_ n1_; (try clear hb)))
                  go_roundg k4
                  case measure => have := HK1.out; have := HJ6.out; have := HJ11.out; have := HK4.out; omega
                  case rel => exact ⟨(y111), (wrap64 (x5_1 + (t114.size : Int))), (by first | rfl | (simp; done) | (simp [*]; done)), H', ⟨by have := HK1.out; have := HJ6.out; have := HJ11.out; have := HK4.out; omega⟩, ⟨by exact rok HO113.out⟩, ⟨by exact bok HB.out⟩⟩
                 ·
                  rw [if_neg c48] at H
                  exact absurd H (by simp)
     ·
      rw [if_neg c4] at H
      exact absurd H (by simp)
    ·
     rw [if_neg c3] at H
     have c3b0 : decide (x5_1 < (a0.size : Int)) = false := decide_eq_false c3
     clear c3
     simp only [Option.some.injEq, Prod.mk.injEq] at H
     obtain ⟨rfl, rfl⟩ := H
     go_wp2
     go_ret2
     exact ⟨_, by first | rfl | (simp [*, zbe, zbf] <;> rfl), by exact rok HO_4.out, by exact bok HB.out⟩

end Go.Proofs.YtcaegaljhogbjaaGreatDoor.G
