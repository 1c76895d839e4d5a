/- What Go functions compute, as plain Lean functions, and that the machine comes to just that: written by wip/tools/printx.py (my run of the printer, with contracts of mine beside it). -/
import Derived.Test.YtjkdibkgmfnkdaaDoorQx0
namespace Go.Proofs.YtjkdibkgmfnkdaaDoor.Q
open Go.Proofs.YtjkdibkgmfnkdaaDoor.Ext Go.Proofs.YtjkdibkgmfnkdaaDoor.B Go.RowKit Go.Proofs.YtjkdibkgmfnkdaaDoorW.PrintWords Go.Proofs.YtjkdibkgmfnkdaaDoorW.PrintLast Go.Proofs.YtjkdibkgmfnkdaaDoorW.PrintMore
attribute [local go_sem] max2_int min2_int max_two min_two max_three min_three max_four min_four   -- for this text's walks alone
set_option linter.unusedVariables false
set_option linter.unusedSimpArgs false

/-! ### remontoirref02_Parse: function 24 -/
mutual
def remontoirref02_Parse.j0 : Nat → ByteArray → Bool → Option (Int × Int)
  | 0, _, _ => none
  | k + 1, x0, x22 => if x22 = true then (some (0, 2)) else ((remontoirref02_number.f k x0 1).bind fun bt139 => (if bt139.2.2 = true then (remontoirref02_Parse.j1 k x0 1 0 bt139.1 bt139.2.1 (decide (bt139.2.1 < (x0.size : Int)))) else (remontoirref02_Parse.j1 k x0 1 0 bt139.1 bt139.2.1 false)))
def remontoirref02_Parse.j1 : Nat → ByteArray → Int → Int → Int → Int → Bool → Option (Int × Int)
  | 0, _, _, _, _, _, _ => none
  | k + 1, x0, x4, x5, x6, x7, x35 => if x35 = true then (if 0 ≤ x7 then (if x7 < (x0.size : Int) then (if (bt x0 x7) = 89 then (remontoirref02_Parse.j2 k x0 x6 x7 (bt x0 x7) ((bt x0 x7) == 89)) else (remontoirref02_Parse.j2 k x0 x6 x7 (bt x0 x7) ((bt x0 x7) == 77))) else (none)) else (none)) else (remontoirref02_Parse.j3 k x0 x4 x5)
def remontoirref02_Parse.j3 : Nat → ByteArray → Int → Int → Option (Int × Int)
  | 0, _, _, _ => none
  | k + 1, x0, x4, x5 => if x4 < (x0.size : Int) then (if 0 ≤ x4 then (if (bt x0 x4) = 84 then (remontoirref02_Parse.l0 k x0 (wrap64 (x4 + 1)) x5 false (([3600, 60, 1] : List Int)) 0) else (some (0, 2))) else (none)) else (if x5 > 1125899906842624 then (some (0, 3)) else (some (x5, 0)))
def remontoirref02_Parse.l0 : Nat → ByteArray → Int → Int → Bool → List Int → Int → Option (Int × Int)
  | 0, _, _, _, _, _, _ => none
  | k + 1, x0, x4, x5, x9, x10, x11 => if x11 < 3 then ((remontoirref02_number.f k x0 x4).bind fun bt147 => (if bt147.2.2 = true then (if bt147.2.1 < (x0.size : Int) then (if 0 ≤ bt147.2.1 then (if 0 ≤ x11 then (if (bt x0 bt147.2.1) = (bt (⟨#[72, 77, 83]⟩ : ByteArray) x11) then (if x11 < (x10.length : Int) then ((remontoirref02_add.f x5 bt147.1 (rd x10 x11)).bind fun t151 => (remontoirref02_Parse.l0 k x0 (wrap64 (bt147.2.1 + 1)) t151 true x10 (wrap64 (x11 + 1)))) else (none)) else (remontoirref02_Parse.l0 k x0 x4 x5 x9 x10 (wrap64 (x11 + 1)))) else (none)) else (none)) else (remontoirref02_Parse.l0 k x0 x4 x5 x9 x10 (wrap64 (x11 + 1)))) else (remontoirref02_Parse.l0 k x0 x4 x5 x9 x10 (wrap64 (x11 + 1))))) else (if x9 = true then (remontoirref02_Parse.j5 k x5 (x4 != (x0.size : Int))) else (remontoirref02_Parse.j5 k x5 true))
def remontoirref02_Parse.j5 : Nat → Int → Bool → Option (Int × Int)
  | 0, _, _ => none
  | k + 1, x5, x111 => if x111 = true then (some (0, 2)) else (if x5 > 1125899906842624 then (some (0, 3)) else (some (x5, 0)))
def remontoirref02_Parse.j2 : Nat → ByteArray → Int → Int → Int → Bool → Option (Int × Int)
  | 0, _, _, _, _, _ => none
  | k + 1, x0, x6, x7, x38, x39 => if x39 = true then (some (0, 4)) else (if x38 = 87 then ((remontoirref02_add.f 0 x6 604800).bind fun t142 => (if (wrap64 (x7 + 1)) = (x0.size : Int) then (remontoirref02_Parse.j3 k x0 (wrap64 (x7 + 1)) t142) else (some (0, 2)))) else (if x38 = 68 then ((remontoirref02_add.f 0 x6 86400).bind fun t143 => (remontoirref02_Parse.j3 k x0 (wrap64 (x7 + 1)) t143)) else (some (0, 2))))
end
def remontoirref02_Parse.f (k : Nat) (a0 : ByteArray) : Option (Int × Int) := if (a0.size : Int) < 2 then (remontoirref02_Parse.j0 k a0 true) else (if 0 < (a0.size : Int) then (remontoirref02_Parse.j0 k a0 ((bt a0 0) != 80)) else (none))
theorem remontoirref02_Parse.mono_l : ∀ k, (∀ y0 y1, LeO (remontoirref02_Parse.j0 k y0 y1) (remontoirref02_Parse.j0 (k + 1) y0 y1)) ∧ (∀ y0 y1 y2 y3 y4 y5, LeO (remontoirref02_Parse.j1 k y0 y1 y2 y3 y4 y5) (remontoirref02_Parse.j1 (k + 1) y0 y1 y2 y3 y4 y5)) ∧ (∀ y0 y1 y2, LeO (remontoirref02_Parse.j3 k y0 y1 y2) (remontoirref02_Parse.j3 (k + 1) y0 y1 y2)) ∧ (∀ y0 y1 y2 y3 y4 y5, LeO (remontoirref02_Parse.l0 k y0 y1 y2 y3 y4 y5) (remontoirref02_Parse.l0 (k + 1) y0 y1 y2 y3 y4 y5)) ∧ (∀ y0 y1, LeO (remontoirref02_Parse.j5 k y0 y1) (remontoirref02_Parse.j5 (k + 1) y0 y1)) ∧ (∀ y0 y1 y2 y3 y4, LeO (remontoirref02_Parse.j2 k y0 y1 y2 y3 y4) (remontoirref02_Parse.j2 (k + 1) y0 y1 y2 y3 y4))
  | 0 => ⟨fun _ _ r h => by simp [remontoirref02_Parse.j0] at h, fun _ _ _ _ _ _ r h => by simp [remontoirref02_Parse.j1] at h, fun _ _ _ r h => by simp [remontoirref02_Parse.j3] at h, fun _ _ _ _ _ _ r h => by simp [remontoirref02_Parse.l0] at h, fun _ _ r h => by simp [remontoirref02_Parse.j5] at h, fun _ _ _ _ _ r h => by simp [remontoirref02_Parse.j2] at h⟩
  | k + 1 => by
    obtain ⟨ih0, ih1, ih2, ih3, ih4, ih5⟩ := remontoirref02_Parse.mono_l k
    refine ⟨?_, ?_, ?_, ?_, ?_, ?_⟩
    · intro y0 y1
      unfold remontoirref02_Parse.j0
      repeat' first
      | (with_reducible exact ih0 _ _)
      | (with_reducible exact ih1 _ _ _ _ _ _)
      | (with_reducible exact ih2 _ _ _)
      | (with_reducible exact ih3 _ _ _ _ _ _)
      | (with_reducible exact ih4 _ _)
      | (with_reducible exact ih5 _ _ _ _ _)
      | (with_reducible exact remontoirref02_number.mono _ _ _)
      | (with_reducible exact LeO.refl _)
      | (with_reducible exact LeO.none _)
      | (with_reducible refine LeO.ite ?_ ?_)
      | (with_reducible refine LeO.bind ?_ (fun _ => ?_))
      | exact ih0 _ _
      | exact ih1 _ _ _ _ _ _
      | exact ih2 _ _ _
      | exact ih3 _ _ _ _ _ _
      | exact ih4 _ _
      | exact ih5 _ _ _ _ _
      | exact remontoirref02_number.mono _ _ _
      | exact LeO.none _
      | refine LeO.ite ?_ ?_
      | refine LeO.bind ?_ (fun _ => ?_)
    · intro y0 y1 y2 y3 y4 y5
      unfold remontoirref02_Parse.j1
      repeat' first
      | (with_reducible exact ih0 _ _)
      | (with_reducible exact ih1 _ _ _ _ _ _)
      | (with_reducible exact ih2 _ _ _)
      | (with_reducible exact ih3 _ _ _ _ _ _)
      | (with_reducible exact ih4 _ _)
      | (with_reducible exact ih5 _ _ _ _ _)
      | (with_reducible exact remontoirref02_number.mono _ _ _)
      | (with_reducible exact LeO.refl _)
      | (with_reducible exact LeO.none _)
      | (with_reducible refine LeO.ite ?_ ?_)
      | (with_reducible refine LeO.bind ?_ (fun _ => ?_))
      | exact ih0 _ _
      | exact ih1 _ _ _ _ _ _
      | exact ih2 _ _ _
      | exact ih3 _ _ _ _ _ _
      | exact ih4 _ _
      | exact ih5 _ _ _ _ _
      | exact remontoirref02_number.mono _ _ _
      | exact LeO.none _
      | refine LeO.ite ?_ ?_
      | refine LeO.bind ?_ (fun _ => ?_)
    · intro y0 y1 y2
      unfold remontoirref02_Parse.j3
      repeat' first
      | (with_reducible exact ih0 _ _)
      | (with_reducible exact ih1 _ _ _ _ _ _)
      | (with_reducible exact ih2 _ _ _)
      | (with_reducible exact ih3 _ _ _ _ _ _)
      | (with_reducible exact ih4 _ _)
      | (with_reducible exact ih5 _ _ _ _ _)
      | (with_reducible exact remontoirref02_number.mono _ _ _)
      | (with_reducible exact LeO.refl _)
      | (with_reducible exact LeO.none _)
      | (with_reducible refine LeO.ite ?_ ?_)
      | (with_reducible refine LeO.bind ?_ (fun _ => ?_))
      | exact ih0 _ _
      | exact ih1 _ _ _ _ _ _
      | exact ih2 _ _ _
      | exact ih3 _ _ _ _ _ _
      | exact ih4 _ _
      | exact ih5 _ _ _ _ _
      | exact remontoirref02_number.mono _ _ _
      | exact LeO.none _
      | refine LeO.ite ?_ ?_
      | refine LeO.bind ?_ (fun _ => ?_)
    · intro y0 y1 y2 y3 y4 y5
      unfold remontoirref02_Parse.l0
      repeat' first
      | (with_reducible exact ih0 _ _)
      | (with_reducible exact ih1 _ _ _ _ _ _)
      | (with_reducible exact ih2 _ _ _)
      | (with_reducible exact ih3 _ _ _ _ _ _)
      | (with_reducible exact ih4 _ _)
      | (with_reducible exact ih5 _ _ _ _ _)
      | (with_reducible exact remontoirref02_number.mono _ _ _)
      | (with_reducible exact LeO.refl _)
      | (with_reducible exact LeO.none _)
      | (with_reducible refine LeO.ite ?_ ?_)
      | (with_reducible refine LeO.bind ?_ (fun _ => ?_))
      | exact ih0 _ _
      | exact ih1 _ _ _ _ _ _
      | exact ih2 _ _ _
      | exact ih3 _ _ _ _ _ _
      | exact ih4 _ _
      | exact ih5 _ _ _ _ _
      | exact remontoirref02_number.mono _ _ _
      | exact LeO.none _
      | refine LeO.ite ?_ ?_
      | refine LeO.bind ?_ (fun _ => ?_)
    · intro y0 y1
      unfold remontoirref02_Parse.j5
      repeat' first
      | (with_reducible exact ih0 _ _)
      | (with_reducible exact ih1 _ _ _ _ _ _)
      | (with_reducible exact ih2 _ _ _)
      | (with_reducible exact ih3 _ _ _ _ _ _)
      | (with_reducible exact ih4 _ _)
      | (with_reducible exact ih5 _ _ _ _ _)
      | (with_reducible exact remontoirref02_number.mono _ _ _)
      | (with_reducible exact LeO.refl _)
      | (with_reducible exact LeO.none _)
      | (with_reducible refine LeO.ite ?_ ?_)
      | (with_reducible refine LeO.bind ?_ (fun _ => ?_))
      | exact ih0 _ _
      | exact ih1 _ _ _ _ _ _
      | exact ih2 _ _ _
      | exact ih3 _ _ _ _ _ _
      | exact ih4 _ _
      | exact ih5 _ _ _ _ _
      | exact remontoirref02_number.mono _ _ _
      | exact LeO.none _
      | refine LeO.ite ?_ ?_
      | refine LeO.bind ?_ (fun _ => ?_)
    · intro y0 y1 y2 y3 y4
      unfold remontoirref02_Parse.j2
      repeat' first
      | (with_reducible exact ih0 _ _)
      | (with_reducible exact ih1 _ _ _ _ _ _)
      | (with_reducible exact ih2 _ _ _)
      | (with_reducible exact ih3 _ _ _ _ _ _)
      | (with_reducible exact ih4 _ _)
      | (with_reducible exact ih5 _ _ _ _ _)
      | (with_reducible exact remontoirref02_number.mono _ _ _)
      | (with_reducible exact LeO.refl _)
      | (with_reducible exact LeO.none _)
      | (with_reducible refine LeO.ite ?_ ?_)
      | (with_reducible refine LeO.bind ?_ (fun _ => ?_))
      | exact ih0 _ _
      | exact ih1 _ _ _ _ _ _
      | exact ih2 _ _ _
      | exact ih3 _ _ _ _ _ _
      | exact ih4 _ _
      | exact ih5 _ _ _ _ _
      | exact remontoirref02_number.mono _ _ _
      | exact LeO.none _
      | refine LeO.ite ?_ ?_
      | refine LeO.bind ?_ (fun _ => ?_)
theorem remontoirref02_Parse.mono : ∀ a0 k, LeO (remontoirref02_Parse.f k a0) (remontoirref02_Parse.f (k + 1) a0) := by
  intro a0 k
  obtain ⟨ih0, ih1, ih2, ih3, ih4, ih5⟩ := remontoirref02_Parse.mono_l k
  unfold remontoirref02_Parse.f
  repeat' first
      | (with_reducible exact ih0 _ _)
      | (with_reducible exact ih1 _ _ _ _ _ _)
      | (with_reducible exact ih2 _ _ _)
      | (with_reducible exact ih3 _ _ _ _ _ _)
      | (with_reducible exact ih4 _ _)
      | (with_reducible exact ih5 _ _ _ _ _)
      | (with_reducible exact remontoirref02_number.mono _ _ _)
      | (with_reducible exact LeO.refl _)
      | (with_reducible exact LeO.none _)
      | (with_reducible refine LeO.ite ?_ ?_)
      | (with_reducible refine LeO.bind ?_ (fun _ => ?_))
      | exact ih0 _ _
      | exact ih1 _ _ _ _ _ _
      | exact ih2 _ _ _
      | exact ih3 _ _ _ _ _ _
      | exact ih4 _ _
      | exact ih5 _ _ _ _ _
      | exact remontoirref02_number.mono _ _ _
      | exact LeO.none _
      | refine LeO.ite ?_ ?_
      | refine LeO.bind ?_ (fun _ => ?_)
set_option maxHeartbeats 8000000 in
set_option maxRecDepth 100000 in
theorem remontoirref02_Parse.calls (k : Nat) (a0 : ByteArray) (r1 : Int) (r2 : Int) (w : World) (h : remontoirref02_Parse.f k a0 = some (r1, r2)) :
    Calls Tryd.prog 24 #[.string a0] w fun e w' => e = .returned (.tuple #[.int .u64 r1, .int .i64 r2]) ∧ Below w.heap.size w w' := by
  have HB := Aside0.mk (Below.refl w.heap.size w)
  have H : (if (a0.size : Int) < 2 then (remontoirref02_Parse.j0 k a0 true) else (if 0 < (a0.size : Int) then (remontoirref02_Parse.j0 k a0 ((bt a0 0) != 80)) else (none))) = some (r1, r2) := h
  clear h
  have HC2 := Aside0.mk H
  clear H
  go_enter Tryd.func24, Tryd.ntmps24
  go_upto_region 1 with (fail)
  repeat (go_quiet (fail); go_upto_region 1 with (fail))
  go_cut [22] (fun v22 wc => ∃ (kq : Nat) (x22_1 : Bool), v22 = .bool x22_1 ∧ Aside0 (remontoirref02_Parse.j0 kq a0 x22_1 = some (r1, r2)) ∧ Aside0 (kq ≤ k) ∧ Aside0 (Below w.heap.size w wc))
  case first =>
    have H := HC2.out
    clear HC2
    by_cases c3 : (a0.size : Int) < 2
    · rw [if_pos c3] at H
      have c3b0 : decide ((a0.size : Int) < 2) = true := decide_eq_true c3
      have c3b1 : decide (a0.size < 2) = true := decide_eq_true (by omega)
      clear c3
      (first | rw [c3b0] | (simp only [i64_w, i32_w]; rw [c3b0]) | skip)
      have H' := Aside0.mk H
      clear H
      go_wp2
      repeat (go_quiet (fail); try go_wp2)
      go_meet
      case rel => exact ⟨_, (true), (by first | rfl | (simp; done) | (simp [*]; done)), H', ⟨by first | omega | exact Nat.le_refl _⟩, ⟨by repeat (first | (with_reducible first | exact HB.out | apply below_alloc | apply pw_below_drewN | apply below_drew1) | exact HB.out)⟩⟩
    · rw [if_neg c3] at H
      have c3b0 : decide ((a0.size : Int) < 2) = false := decide_eq_false c3
      have c3b1 : decide (a0.size < 2) = false := decide_eq_false (by omega)
      clear c3
      (first | rw [c3b0] | (simp only [i64_w, i32_w]; rw [c3b0]) | skip)
      by_cases c4 : 0 < (a0.size : Int)
      · rw [if_pos c4] at H
        have c4b0 : decide (0 < (a0.size : Int)) = true := decide_eq_true c4
        have c4b1 : decide (0 < a0.size) = true := decide_eq_true (by omega)
        clear c4
        have H' := Aside0.mk H
        clear H
        have p5 : 0 ≤ (0 : Int) := (by omega)
        have q5 : 0 < a0.size := (by have : (0 : Int) < (a0.size : Int) := of_decide_eq_true (by first | (with_reducible assumption) | assumption); omega)
        have hx5 : ∀ h : 0 < a0.size, ((a0[0]'h).toNat : Int) = bt a0 0 := bt_at a0 0
        clear p5
        have qi5 : (0 < (a0.size : Int)) = True := eq_true (of_decide_eq_true (by first | (with_reducible assumption) | assumption))
        replace q5 := eq_true q5
        go_wp2
        repeat (go_quiet (fail); try go_wp2)
        go_meet
        case rel => exact ⟨_, (((bt a0 0) != 80)), (by first | rfl | (simp; done) | (simp [*]; done)), H', ⟨by first | omega | exact Nat.le_refl _⟩, ⟨by repeat (first | (with_reducible first | exact HB.out | apply below_alloc | apply pw_below_drewN | apply below_drew1) | exact HB.out)⟩⟩
      · rw [if_neg c4] at H
        exact absurd H (by simp)
  case rest =>
    clear HC2
    try clear c2
    try clear p2
    try clear c3
    try clear c3b0
    try clear c3b1
    try clear c4
    try clear c4b0
    try clear c4b1
    try clear p5
    try clear q5
    try clear hx5
    try clear qi5
    try clear p5
    try clear q5
    obtain ⟨kq, x22_1, rfl, HA, HJ1, HB⟩ := hcut
    cases kq with
    | zero => exact absurd HA.out (by simp [remontoirref02_Parse.j0])
    | succ kj1 =>
      have H := HA.out
      clear HA
      simp only [remontoirref02_Parse.j0] at H
      by_cases c6 : x22_1 = true
      · subst c6
        have H1 : (some (0, 2)) = some (r1, r2) := by rw [if_pos rfl] at H; exact H
        clear H
        have H := H1
        clear H1
        simp only [Option.some.injEq, Prod.mk.injEq] at H
        obtain ⟨rfl, rfl⟩ := H
        go_wp2
        repeat (go_quiet (fail); try go_wp2)
        go_ret2
        exact ⟨by first | rfl | (simp [errW_none, errW_some] <;> rfl) | (simp [*, errW_none, errW_some] <;> rfl), by repeat (first | (with_reducible first | exact HB.out | apply below_alloc | apply pw_below_drewN | apply below_drew1) | exact HB.out)⟩
      · replace c6 := Bool.eq_false_iff.mpr c6
        subst c6
        have H1 : ((remontoirref02_number.f kj1 a0 1).bind fun bt139 => (if bt139.2.2 = true then (remontoirref02_Parse.j1 kj1 a0 1 0 bt139.1 bt139.2.1 (decide (bt139.2.1 < (a0.size : Int)))) else (remontoirref02_Parse.j1 kj1 a0 1 0 bt139.1 bt139.2.1 false))) = some (r1, r2) := by rw [if_neg (show ¬ (false = true) by decide)] at H; exact H
        clear H
        have H := H1
        clear H1
        replace H := Option.bind_eq_some_iff.mp H
        obtain ⟨⟨t139, t140, t141⟩, A70, H⟩ := H
        replace H : (if t141 = true then (remontoirref02_Parse.j1 kj1 a0 1 0 t139 t140 (decide (t140 < (a0.size : Int)))) else (remontoirref02_Parse.j1 kj1 a0 1 0 t139 t140 false)) = some (r1, r2) := H
        have A7 := Aside0.mk A70
        clear A70
        have HC8 := Aside0.mk H
        clear H
        go_upto_region 5 with (first | (go_at_call 40; (with_reducible refine (remontoirref02_number.calls kj1 a0 1 t139 t140 t141 _ A7.out).mono ?_); rintro e w' ⟨rfl, ⟨nd, rfl⟩⟩; (try first | exact ⟨rfl, _, World.drewN_drewN _ _ _⟩ | exact ⟨rfl, _, Eq.trans (World.drewN_drewN _ _ _) (congrArg (World.drewN _) (Nat.add_assoc _ _ _))⟩)))
        repeat (go_quiet (first | (go_at_call 40; (with_reducible refine (remontoirref02_number.calls kj1 a0 1 t139 t140 t141 _ A7.out).mono ?_); rintro e w' ⟨rfl, ⟨nd, rfl⟩⟩; (try first | exact ⟨rfl, _, World.drewN_drewN _ _ _⟩ | exact ⟨rfl, _, Eq.trans (World.drewN_drewN _ _ _) (congrArg (World.drewN _) (Nat.add_assoc _ _ _))⟩))); go_upto_region 5 with (first | (go_at_call 40; (with_reducible refine (remontoirref02_number.calls kj1 a0 1 t139 t140 t141 _ A7.out).mono ?_); rintro e w' ⟨rfl, ⟨nd, rfl⟩⟩; (try first | exact ⟨rfl, _, World.drewN_drewN _ _ _⟩ | exact ⟨rfl, _, Eq.trans (World.drewN_drewN _ _ _) (congrArg (World.drewN _) (Nat.add_assoc _ _ _))⟩))))
        (try simp only [Act.put, List.setIfInBounds_toArray, List.set_cons_zero, List.set_cons_succ])
        go_cut [35] (fun v35 wc => ∃ (kq : Nat) (x35_7 : Bool), v35 = .bool x35_7 ∧ Aside0 (remontoirref02_Parse.j1 kq a0 1 0 t139 t140 x35_7 = some (r1, r2)) ∧ Aside0 (kq ≤ kj1) ∧ Aside0 (Below w.heap.size w wc))
        case first =>
          have H := HC8.out
          clear HC8
          by_cases c9 : t141 = true
          · subst c9
            have H1 : (remontoirref02_Parse.j1 kj1 a0 1 0 t139 t140 (decide (t140 < (a0.size : Int)))) = some (r1, r2) := by rw [if_pos rfl] at H; exact H
            clear H
            have H := H1
            clear H1
            have H' := Aside0.mk H
            clear H
            go_wp2
            repeat (go_quiet (fail); try go_wp2)
            go_meet
            case rel => exact ⟨_, (decide (t140 < (a0.size : Int))), (by first | rfl | (simp; done) | (simp [*]; done)), H', ⟨by have := HJ1.out; first | omega | exact Nat.le_refl _⟩, ⟨by repeat (first | (with_reducible first | exact HB.out | apply below_alloc | apply pw_below_drewN | apply below_drew1) | exact HB.out)⟩⟩
          · replace c9 := Bool.eq_false_iff.mpr c9
            subst c9
            have H1 : (remontoirref02_Parse.j1 kj1 a0 1 0 t139 t140 false) = some (r1, r2) := by rw [if_neg (show ¬ (false = true) by decide)] at H; exact H
            clear H
            have H := H1
            clear H1
            have H' := Aside0.mk H
            clear H
            go_wp2
            repeat (go_quiet (fail); try go_wp2)
            go_meet
            case rel => exact ⟨_, (false), (by first | rfl | (simp; done) | (simp [*]; done)), H', ⟨by have := HJ1.out; first | omega | exact Nat.le_refl _⟩, ⟨by repeat (first | (with_reducible first | exact HB.out | apply below_alloc | apply pw_below_drewN | apply below_drew1) | exact HB.out)⟩⟩
        case rest =>
          clear HC8
          try clear c2
          try clear p2
          try clear c3
          try clear c3b0
          try clear c3b1
          try clear c4
          try clear c4b0
          try clear c4b1
          try clear p5
          try clear q5
          try clear hx5
          try clear qi5
          try clear c6
          try clear c9
          try clear p2
          try clear p5
          try clear q5
          obtain ⟨kq, x35_7, rfl, HA, HJ7, HB⟩ := hcut
          cases kq with
          | zero => exact absurd HA.out (by simp [remontoirref02_Parse.j1])
          | succ kj7 =>
            have H := HA.out
            clear HA
            simp only [remontoirref02_Parse.j1] at H
            have HC10 := Aside0.mk H
            clear H
            go_upto_if 35 with (fail)
            repeat (go_quiet (fail); go_upto_if 35 with (fail))
            go_cut [4, 5] (fun v4 v5 wc => ∃ (kq : Nat) (x4_9 : Int) (x5_9 : Int), v4 = .int .i64 x4_9 ∧ v5 = .int .u64 x5_9 ∧ Aside0 (remontoirref02_Parse.j3 kq a0 x4_9 x5_9 = some (r1, r2)) ∧ Aside0 (kq ≤ kj7) ∧ Aside0 (Below w.heap.size w wc))
            case first =>
              have H := HC10.out
              clear HC10
              by_cases c11 : x35_7 = true
              · subst c11
                have H1 : (if 0 ≤ t140 then (if t140 < (a0.size : Int) then (if (bt a0 t140) = 89 then (remontoirref02_Parse.j2 kj7 a0 t139 t140 (bt a0 t140) ((bt a0 t140) == 89)) else (remontoirref02_Parse.j2 kj7 a0 t139 t140 (bt a0 t140) ((bt a0 t140) == 77))) else (none)) else (none)) = some (r1, r2) := by rw [if_pos rfl] at H; exact H
                clear H
                have H := H1
                clear H1
                by_cases c12 : 0 ≤ t140
                · rw [if_pos c12] at H
                  have c12b0 : decide (0 ≤ t140) = true := decide_eq_true c12
                  clear c12
                  (first | rw [c12b0] | (simp only [i64_w, i32_w]; rw [c12b0]) | skip)
                  by_cases c13 : t140 < (a0.size : Int)
                  · rw [if_pos c13] at H
                    have c13b0 : decide (t140 < (a0.size : Int)) = true := decide_eq_true c13
                    clear c13
                    have HC15 := Aside0.mk H
                    clear H
                    have p14 : 0 ≤ (t140 : Int) := of_decide_eq_true (by first | (with_reducible assumption) | assumption)
                    have q14 : t140 < (a0.size : Int) := of_decide_eq_true (by first | (with_reducible assumption) | assumption)
                    have hx14 := bt_at a0 t140
                    replace p14 := eq_true p14
                    replace q14 := eq_true q14
                    go_upto_if 39 with (fail)
                    repeat (go_quiet (fail); go_upto_if 39 with (fail))
                    go_cut [39] (fun v39 wc => ∃ (kq : Nat) (x39_14 : Bool), v39 = .bool x39_14 ∧ Aside0 (remontoirref02_Parse.j2 kq a0 t139 t140 (bt a0 t140) x39_14 = some (r1, r2)) ∧ Aside0 (kq ≤ kj7) ∧ Aside0 (Below w.heap.size w wc))
                    case first =>
                      have H := HC15.out
                      clear HC15
                      by_cases c16 : (bt a0 t140) = 89
                      · rw [if_pos c16] at H
                        have c16b0 : ((bt a0 t140) == 89) = true := beq_iff_eq.mpr c16
                        have c16b1 : ((bt a0 t140) != 89) = false := bne_eq_false_iff_eq.mpr c16
                        clear c16
                        (first | rw [c16b0] | (simp only [i64_w, i32_w]; rw [c16b0]) | skip)
                        have H' := Aside0.mk H
                        clear H
                        go_wp2
                        repeat (go_quiet (fail); try go_wp2)
                        go_meet
                        case rel => exact ⟨_, (((bt a0 t140) == 89)), (by first | rfl | (simp; done) | (simp [*]; done)), H', ⟨by have := HJ1.out; have := HJ7.out; first | omega | exact Nat.le_refl _⟩, ⟨by repeat (first | (with_reducible first | exact HB.out | apply below_alloc | apply pw_below_drewN | apply below_drew1) | exact HB.out)⟩⟩
                      · rw [if_neg c16] at H
                        have c16b0 : ((bt a0 t140) == 89) = false := beq_eq_false_iff_ne.mpr c16
                        have c16b1 : ((bt a0 t140) != 89) = true := bne_iff_ne.mpr c16
                        (first | rw [c16b0] | (simp only [i64_w, i32_w]; rw [c16b0]) | skip)
                        have H' := Aside0.mk H
                        clear H
                        go_wp2
                        repeat (go_quiet (fail); try go_wp2)
                        go_meet
                        case rel => exact ⟨_, (((bt a0 t140) == 77)), (by first | rfl | (simp; done) | (simp [*]; done)), H', ⟨by have := HJ1.out; have := HJ7.out; first | omega | exact Nat.le_refl _⟩, ⟨by repeat (first | (with_reducible first | exact HB.out | apply below_alloc | apply pw_below_drewN | apply below_drew1) | exact HB.out)⟩⟩
                    case rest =>
                      clear HC15
                      try clear c1
                      try clear p1
                      try clear q1
                      try clear hx1
                      try clear c2
                      try clear p2
                      try clear c3
                      try clear c3b0
                      try clear c3b1
                      try clear c4
                      try clear c4b0
                      try clear c4b1
                      try clear p5
                      try clear q5
                      try clear hx5
                      try clear qi5
                      try clear c6
                      try clear c9
                      try clear c11
                      try clear c12
                      try clear c12b0
                      try clear c13
                      try clear c13b0
                      try clear p14
                      try clear q14
                      try clear hx14
                      try clear c16
                      try clear c16b0
                      try clear c16b1
                      try clear p14
                      try clear p2
                      try clear p5
                      try clear q14
                      try clear q5
                      obtain ⟨kq, x39_14, rfl, HA, HJ14, HB⟩ := hcut
                      cases kq with
                      | zero => exact absurd HA.out (by simp [remontoirref02_Parse.j2])
                      | succ kj14 =>
                        have H := HA.out
                        clear HA
                        simp only [remontoirref02_Parse.j2] at H
                        by_cases c17 : x39_14 = true
                        · subst c17
                          have H1 : (some (0, 4)) = some (r1, r2) := by rw [if_pos rfl] at H; exact H
                          clear H
                          have H := H1
                          clear H1
                          simp only [Option.some.injEq, Prod.mk.injEq] at H
                          obtain ⟨rfl, rfl⟩ := H
                          go_wp2
                          repeat (go_quiet (fail); try go_wp2)
                          go_ret2
                          exact ⟨by first | rfl | (simp [errW_none, errW_some] <;> rfl) | (simp [*, errW_none, errW_some] <;> rfl), by repeat (first | (with_reducible first | exact HB.out | apply below_alloc | apply pw_below_drewN | apply below_drew1) | exact HB.out)⟩
                        · replace c17 := Bool.eq_false_iff.mpr c17
                          subst c17
                          have H1 : (if (bt a0 t140) = 87 then ((remontoirref02_add.f 0 t139 604800).bind fun t142 => (if (wrap64 (t140 + 1)) = (a0.size : Int) then (remontoirref02_Parse.j3 kj14 a0 (wrap64 (t140 + 1)) t142) else (some (0, 2)))) else (if (bt a0 t140) = 68 then ((remontoirref02_add.f 0 t139 86400).bind fun t143 => (remontoirref02_Parse.j3 kj14 a0 (wrap64 (t140 + 1)) t143)) else (some (0, 2)))) = some (r1, r2) := by rw [if_neg (show ¬ (false = true) by decide)] at H; exact H
                          clear H
                          have H := H1
                          clear H1
                          by_cases c18 : (bt a0 t140) = 87
                          · rw [if_pos c18] at H
                            have c18b0 : ((bt a0 t140) == 87) = true := beq_iff_eq.mpr c18
                            have c18b1 : ((bt a0 t140) != 87) = false := bne_eq_false_iff_eq.mpr c18
                            clear c18
                            replace H := Option.bind_eq_some_iff.mp H
                            obtain ⟨t142, A190, H⟩ := H
                            replace H : (if (wrap64 (t140 + 1)) = (a0.size : Int) then (remontoirref02_Parse.j3 kj14 a0 (wrap64 (t140 + 1)) t142) else (some (0, 2))) = some (r1, r2) := H
                            have A19 := Aside0.mk A190
                            clear A190
                            by_cases c20 : (wrap64 (t140 + 1)) = (a0.size : Int)
                            · rw [if_pos c20] at H
                              have c20b0 : ((wrap64 (t140 + 1)) == (a0.size : Int)) = true := beq_iff_eq.mpr c20
                              have c20b1 : ((wrap64 (t140 + 1)) != (a0.size : Int)) = false := bne_eq_false_iff_eq.mpr c20
                              clear c20
                              have H' := Aside0.mk H
                              clear H
                              go_wp2_with (first | (go_at_call 41; (with_reducible refine (remontoirref02_add.calls 0 t139 604800 t142 _ A19.out).mono ?_); rintro e w' ⟨rfl, ⟨nd, rfl⟩⟩; (try first | exact ⟨rfl, _, World.drewN_drewN _ _ _⟩ | exact ⟨rfl, _, Eq.trans (World.drewN_drewN _ _ _) (congrArg (World.drewN _) (Nat.add_assoc _ _ _))⟩)))
                              repeat (go_quiet (first | (go_at_call 41; (with_reducible refine (remontoirref02_add.calls 0 t139 604800 t142 _ A19.out).mono ?_); rintro e w' ⟨rfl, ⟨nd, rfl⟩⟩; (try first | exact ⟨rfl, _, World.drewN_drewN _ _ _⟩ | exact ⟨rfl, _, Eq.trans (World.drewN_drewN _ _ _) (congrArg (World.drewN _) (Nat.add_assoc _ _ _))⟩))); try go_wp2_with (first | (go_at_call 41; (with_reducible refine (remontoirref02_add.calls 0 t139 604800 t142 _ A19.out).mono ?_); rintro e w' ⟨rfl, ⟨nd, rfl⟩⟩; (try first | exact ⟨rfl, _, World.drewN_drewN _ _ _⟩ | exact ⟨rfl, _, Eq.trans (World.drewN_drewN _ _ _) (congrArg (World.drewN _) (Nat.add_assoc _ _ _))⟩))))
                              go_meet
                              case rel => exact ⟨_, (wrap64 (t140 + 1)), (t142), (by first | rfl | (simp; done) | (simp [*]; done)), (by first | rfl | (simp; done) | (simp [*]; done)), H', ⟨by have := HJ1.out; have := HJ7.out; have := HJ14.out; first | omega | exact Nat.le_refl _⟩, ⟨by repeat (first | (with_reducible first | exact HB.out | apply below_alloc | apply pw_below_drewN | apply below_drew1) | exact HB.out)⟩⟩
                            · rw [if_neg c20] at H
                              have c20b0 : ((wrap64 (t140 + 1)) == (a0.size : Int)) = false := beq_eq_false_iff_ne.mpr c20
                              have c20b1 : ((wrap64 (t140 + 1)) != (a0.size : Int)) = true := bne_iff_ne.mpr c20
                              simp only [Option.some.injEq, Prod.mk.injEq] at H
                              obtain ⟨rfl, rfl⟩ := H
                              go_wp2_with (first | (go_at_call 41; (with_reducible refine (remontoirref02_add.calls 0 t139 604800 t142 _ A19.out).mono ?_); rintro e w' ⟨rfl, ⟨nd, rfl⟩⟩; (try first | exact ⟨rfl, _, World.drewN_drewN _ _ _⟩ | exact ⟨rfl, _, Eq.trans (World.drewN_drewN _ _ _) (congrArg (World.drewN _) (Nat.add_assoc _ _ _))⟩)))
                              repeat (go_quiet (first | (go_at_call 41; (with_reducible refine (remontoirref02_add.calls 0 t139 604800 t142 _ A19.out).mono ?_); rintro e w' ⟨rfl, ⟨nd, rfl⟩⟩; (try first | exact ⟨rfl, _, World.drewN_drewN _ _ _⟩ | exact ⟨rfl, _, Eq.trans (World.drewN_drewN _ _ _) (congrArg (World.drewN _) (Nat.add_assoc _ _ _))⟩))); try go_wp2_with (first | (go_at_call 41; (with_reducible refine (remontoirref02_add.calls 0 t139 604800 t142 _ A19.out).mono ?_); rintro e w' ⟨rfl, ⟨nd, rfl⟩⟩; (try first | exact ⟨rfl, _, World.drewN_drewN _ _ _⟩ | exact ⟨rfl, _, Eq.trans (World.drewN_drewN _ _ _) (congrArg (World.drewN _) (Nat.add_assoc _ _ _))⟩))))
                              go_ret2
                              exact ⟨by first | rfl | (simp [errW_none, errW_some] <;> rfl) | (simp [*, errW_none, errW_some] <;> rfl), by repeat (first | (with_reducible first | exact HB.out | apply below_alloc | apply pw_below_drewN | apply below_drew1) | exact HB.out)⟩
                          · rw [if_neg c18] at H
                            have c18b0 : ((bt a0 t140) == 87) = false := beq_eq_false_iff_ne.mpr c18
                            have c18b1 : ((bt a0 t140) != 87) = true := bne_iff_ne.mpr c18
                            by_cases c21 : (bt a0 t140) = 68
                            · rw [if_pos c21] at H
                              have c21b0 : ((bt a0 t140) == 68) = true := beq_iff_eq.mpr c21
                              have c21b1 : ((bt a0 t140) != 68) = false := bne_eq_false_iff_eq.mpr c21
                              clear c21
                              replace H := Option.bind_eq_some_iff.mp H
                              obtain ⟨t143, A220, H⟩ := H
                              replace H : (remontoirref02_Parse.j3 kj14 a0 (wrap64 (t140 + 1)) t143) = some (r1, r2) := H
                              have A22 := Aside0.mk A220
                              clear A220
                              have H' := Aside0.mk H
                              clear H
                              go_wp2_with (first | (go_at_call 41; (with_reducible refine (remontoirref02_add.calls 0 t139 86400 t143 _ A22.out).mono ?_); rintro e w' ⟨rfl, ⟨nd, rfl⟩⟩; (try first | exact ⟨rfl, _, World.drewN_drewN _ _ _⟩ | exact ⟨rfl, _, Eq.trans (World.drewN_drewN _ _ _) (congrArg (World.drewN _) (Nat.add_assoc _ _ _))⟩)))
                              repeat (go_quiet (first | (go_at_call 41; (with_reducible refine (remontoirref02_add.calls 0 t139 86400 t143 _ A22.out).mono ?_); rintro e w' ⟨rfl, ⟨nd, rfl⟩⟩; (try first | exact ⟨rfl, _, World.drewN_drewN _ _ _⟩ | exact ⟨rfl, _, Eq.trans (World.drewN_drewN _ _ _) (congrArg (World.drewN _) (Nat.add_assoc _ _ _))⟩))); try go_wp2_with (first | (go_at_call 41; (with_reducible refine (remontoirref02_add.calls 0 t139 86400 t143 _ A22.out).mono ?_); rintro e w' ⟨rfl, ⟨nd, rfl⟩⟩; (try first | exact ⟨rfl, _, World.drewN_drewN _ _ _⟩ | exact ⟨rfl, _, Eq.trans (World.drewN_drewN _ _ _) (congrArg (World.drewN _) (Nat.add_assoc _ _ _))⟩))))
                              go_meet
                              case rel => exact ⟨_, (wrap64 (t140 + 1)), (t143), (by first | rfl | (simp; done) | (simp [*]; done)), (by first | rfl | (simp; done) | (simp [*]; done)), H', ⟨by have := HJ1.out; have := HJ7.out; have := HJ14.out; first | omega | exact Nat.le_refl _⟩, ⟨by repeat (first | (with_reducible first | exact HB.out | apply below_alloc | apply pw_below_drewN | apply below_drew1) | exact HB.out)⟩⟩
                            · rw [if_neg c21] at H
                              have c21b0 : ((bt a0 t140) == 68) = false := beq_eq_false_iff_ne.mpr c21
                              have c21b1 : ((bt a0 t140) != 68) = true := bne_iff_ne.mpr c21
                              simp only [Option.some.injEq, Prod.mk.injEq] at H
                              obtain ⟨rfl, rfl⟩ := H
                              go_wp2
                              repeat (go_quiet (fail); try go_wp2)
                              go_ret2
                              exact ⟨by first | rfl | (simp [errW_none, errW_some] <;> rfl) | (simp [*, errW_none, errW_some] <;> rfl), by repeat (first | (with_reducible first | exact HB.out | apply below_alloc | apply pw_below_drewN | apply below_drew1) | exact HB.out)⟩
                  · rw [if_neg c13] at H
                    exact absurd H (by simp)
                · rw [if_neg c12] at H
                  exact absurd H (by simp)
              · replace c11 := Bool.eq_false_iff.mpr c11
                subst c11
                have H1 : (remontoirref02_Parse.j3 kj7 a0 1 0) = some (r1, r2) := by rw [if_neg (show ¬ (false = true) by decide)] at H; exact H
                clear H
                have H := H1
                clear H1
                have H' := Aside0.mk H
                clear H
                go_wp2
                repeat (go_quiet (fail); try go_wp2)
                go_meet
                case rel => exact ⟨_, (1), (0), (by first | rfl | (simp; done) | (simp [*]; done)), (by first | rfl | (simp; done) | (simp [*]; done)), H', ⟨by have := HJ1.out; have := HJ7.out; first | omega | exact Nat.le_refl _⟩, ⟨by repeat (first | (with_reducible first | exact HB.out | apply below_alloc | apply pw_below_drewN | apply below_drew1) | exact HB.out)⟩⟩
            case rest =>
              clear HC10
              try clear c1
              try clear p1
              try clear q1
              try clear hx1
              try clear c2
              try clear p2
              try clear c3
              try clear c3b0
              try clear c3b1
              try clear c4
              try clear c4b0
              try clear c4b1
              try clear p5
              try clear q5
              try clear hx5
              try clear qi5
              try clear c6
              try clear p6
              try clear c9
              try clear c11
              try clear c12
              try clear c12b0
              try clear c13
              try clear c13b0
              try clear p14
              try clear q14
              try clear hx14
              try clear c16
              try clear c16b0
              try clear c16b1
              try clear c17
              try clear c18
              try clear c18b0
              try clear c18b1
              try clear c20
              try clear c20b0
              try clear c20b1
              try clear c21
              try clear c21b0
              try clear c21b1
              try clear p1
              try clear p14
              try clear p2
              try clear p5
              try clear q1
              try clear q14
              try clear q5
              obtain ⟨kq, x4_9, x5_9, rfl, rfl, HA, HJ9, HB⟩ := hcut
              cases kq with
              | zero => exact absurd HA.out (by simp [remontoirref02_Parse.j3])
              | succ kj9 =>
                have H := HA.out
                clear HA
                simp only [remontoirref02_Parse.j3] at H
                by_cases c23 : x4_9 < (a0.size : Int)
                · rw [if_pos c23] at H
                  have c23b0 : decide (x4_9 < (a0.size : Int)) = true := decide_eq_true c23
                  clear c23
                  by_cases c24 : 0 ≤ x4_9
                  · rw [if_pos c24] at H
                    have c24b0 : decide (0 ≤ x4_9) = true := decide_eq_true c24
                    clear c24
                    by_cases c26 : (bt a0 x4_9) = 84
                    · rw [if_pos c26] at H
                      have c26b0 : ((bt a0 x4_9) == 84) = true := beq_iff_eq.mpr c26
                      have c26b1 : ((bt a0 x4_9) != 84) = false := bne_eq_false_iff_eq.mpr c26
                      clear c26
                      obtain ⟨y144, hy144⟩ : ∃ y_ : List Int, y_ = (([3600, 60, 1] : List Int)) := ⟨_, rfl⟩
                      replace H : (remontoirref02_Parse.l0 kj9 a0 (wrap64 (x4_9 + 1)) x5_9 false y144 0) = some (r1, r2) := by first | (rw [hy144]; with_reducible exact H) | (have H2_ := (Option.bind_some _ _).symm.trans H; rw [hy144]; with_reducible exact H2_) | (have H2_ := (Option.bind_some _ _).symm.trans H; with_reducible exact H2_) | with_reducible exact H | (rw [hy144]; exact H) | exact H
                      have Ny144 := Aside0.mk hy144
                      clear hy144
                      have H' := Aside0.mk H
                      clear H
                      have p25 : 0 ≤ (x4_9 : Int) := of_decide_eq_true (by first | (with_reducible assumption) | assumption)
                      have q25 : x4_9 < (a0.size : Int) := of_decide_eq_true (by first | (with_reducible assumption) | assumption)
                      have hx25 := bt_at a0 x4_9
                      replace p25 := eq_true p25
                      replace q25 := eq_true q25
                      go_wp2_with (first | ((with_reducible refine gate_dst (N := 68) rfl ?_); (try (refine gate_guard (by rfl) ?_; dsimp only)); refine Kd.R_lit (Kd.int .u64) _ 23 ?hg (N := 68) ?hd (xs := ([3600, 60, 1] : List Int)) (inner := [.int .u64 3600, .int .u64 60, .int .u64 1]) (ok := fun _ => True) (okp := fun _ => True) ?hr ?hp (fun _ hk => hk) trivial (Below.refl _ _) (Nat.le_refl _) (by simp) ?_; (case hd => rfl); (case hg => rfl); (case hr => first | (go_simp; done) | (go_simp; rfl)); (case hp => exact (Reps.one (show Kd.M (Kd.int .u64) _ _ _ 3600 [.int .u64 3600] from rfl) (Reps.one (show Kd.M (Kd.int .u64) _ _ _ 60 [.int .u64 60] from rfl) (Reps.one (show Kd.M (Kd.int .u64) _ _ _ 1 [.int .u64 1] from rfl) (Reps.none _ _))))); intro v145 w27 ho28 hb hg_ hnew_; clear hg_ hnew_; (first | rw [← Ny144.out] at ho28 | (simp only [Int.reduceToNat] at ho28; rw [← Ny144.out] at ho28)); have n0_ := Aside0.mk (Kd.R_lower ho28 (below_size (by repeat (first | (with_reducible first | exact HB.out | apply below_alloc | apply pw_below_drewN | apply below_drew1) | exact HB.out)))); have n1_ := Aside0.mk (below_step (by repeat (first | (with_reducible first | exact HB.out | apply below_alloc | apply pw_below_drewN | apply below_drew1) | exact HB.out)) hb); clear HB; have HO146 := n0_; have HB := n1_; clear n0_ n1_; clear hb ho28))
                      repeat (go_quiet (first | ((with_reducible refine gate_dst (N := 68) rfl ?_); (try (refine gate_guard (by rfl) ?_; dsimp only)); refine Kd.R_lit (Kd.int .u64) _ 23 ?hg (N := 68) ?hd (xs := ([3600, 60, 1] : List Int)) (inner := [.int .u64 3600, .int .u64 60, .int .u64 1]) (ok := fun _ => True) (okp := fun _ => True) ?hr ?hp (fun _ hk => hk) trivial (Below.refl _ _) (Nat.le_refl _) (by simp) ?_; (case hd => rfl); (case hg => rfl); (case hr => first | (go_simp; done) | (go_simp; rfl)); (case hp => exact (Reps.one (show Kd.M (Kd.int .u64) _ _ _ 3600 [.int .u64 3600] from rfl) (Reps.one (show Kd.M (Kd.int .u64) _ _ _ 60 [.int .u64 60] from rfl) (Reps.one (show Kd.M (Kd.int .u64) _ _ _ 1 [.int .u64 1] from rfl) (Reps.none _ _))))); intro v145 w27 ho28 hb hg_ hnew_; clear hg_ hnew_; (first | rw [← Ny144.out] at ho28 | (simp only [Int.reduceToNat] at ho28; rw [← Ny144.out] at ho28)); have n0_ := Aside0.mk (Kd.R_lower ho28 (below_size (by repeat (first | (with_reducible first | exact HB.out | apply below_alloc | apply pw_below_drewN | apply below_drew1) | exact HB.out)))); have n1_ := Aside0.mk (below_step (by repeat (first | (with_reducible first | exact HB.out | apply below_alloc | apply pw_below_drewN | apply below_drew1) | exact HB.out)) hb); clear HB; have HO146 := n0_; have HB := n1_; clear n0_ n1_; clear hb ho28)); try go_wp2_with (first | ((with_reducible refine gate_dst (N := 68) rfl ?_); (try (refine gate_guard (by rfl) ?_; dsimp only)); refine Kd.R_lit (Kd.int .u64) _ 23 ?hg (N := 68) ?hd (xs := ([3600, 60, 1] : List Int)) (inner := [.int .u64 3600, .int .u64 60, .int .u64 1]) (ok := fun _ => True) (okp := fun _ => True) ?hr ?hp (fun _ hk => hk) trivial (Below.refl _ _) (Nat.le_refl _) (by simp) ?_; (case hd => rfl); (case hg => rfl); (case hr => first | (go_simp; done) | (go_simp; rfl)); (case hp => exact (Reps.one (show Kd.M (Kd.int .u64) _ _ _ 3600 [.int .u64 3600] from rfl) (Reps.one (show Kd.M (Kd.int .u64) _ _ _ 60 [.int .u64 60] from rfl) (Reps.one (show Kd.M (Kd.int .u64) _ _ _ 1 [.int .u64 1] from rfl) (Reps.none _ _))))); intro v145 w27 ho28 hb hg_ hnew_; clear hg_ hnew_; (first | rw [← Ny144.out] at ho28 | (simp only [Int.reduceToNat] at ho28; rw [← Ny144.out] at ho28)); have n0_ := Aside0.mk (Kd.R_lower ho28 (below_size (by repeat (first | (with_reducible first | exact HB.out | apply below_alloc | apply pw_below_drewN | apply below_drew1) | exact HB.out)))); have n1_ := Aside0.mk (below_step (by repeat (first | (with_reducible first | exact HB.out | apply below_alloc | apply pw_below_drewN | apply below_drew1) | exact HB.out)) hb); clear HB; have HO146 := n0_; have HB := n1_; clear n0_ n1_; clear hb ho28)))
                      go_loopg [4, 5, 9, 11] kj9 (fun kq v4 v5 v9 v11 w' => ∃ (x4_4 : Int) (x5_4 : Int) (x9_4 : Bool) (x11_4 : Int), v4 = .int .i64 x4_4 ∧ v5 = .int .u64 x5_4 ∧ v9 = .bool x9_4 ∧ v11 = .int .i64 x11_4 ∧ Aside0 (remontoirref02_Parse.l0 kq a0 x4_4 x5_4 x9_4 y144 x11_4 = some (r1, r2)) ∧ Aside0 (kq ≤ kj9) ∧ Aside0 (Kd.R (Kd.int .u64) 23 w' w.heap.size (fun _ => True) v145 y144) ∧ Aside0 (Below w.heap.size w w'))
                      case atStart => exact ⟨(wrap64 (x4_9 + 1)), (x5_9), (false), (0), (by first | rfl | (simp; done) | (simp [*]; done)), (by first | rfl | (simp; done) | (simp [*]; done)), (by first | rfl | (simp; done) | (simp [*]; done)), (by first | rfl | (simp; done) | (simp [*]; done)), H', ⟨Nat.le_refl _⟩, ⟨by (with_reducible repeat (first | apply Kd.R_alloc | apply Kd.R_drewN | apply Kd.R_drew)); exact HO146.out⟩, ⟨by repeat (first | (with_reducible first | exact HB.out | apply below_alloc | apply pw_below_drewN | apply below_drew1) | exact HB.out)⟩⟩
                      case round =>
                        clear H'
                        try clear c1
                        try clear p1
                        try clear q1
                        try clear hx1
                        try clear c2
                        try clear p2
                        try clear q2
                        try clear hx2
                        try clear c3
                        try clear c3b0
                        try clear c3b1
                        try clear c4
                        try clear c4b0
                        try clear c4b1
                        try clear p5
                        try clear q5
                        try clear hx5
                        try clear qi5
                        try clear c6
                        try clear p6
                        try clear c9
                        try clear c11
                        try clear c12
                        try clear c12b0
                        try clear c13
                        try clear c13b0
                        try clear p14
                        try clear q14
                        try clear hx14
                        try clear c16
                        try clear c16b0
                        try clear c16b1
                        try clear c17
                        try clear c18
                        try clear c18b0
                        try clear c18b1
                        try clear c20
                        try clear c20b0
                        try clear c20b1
                        try clear c21
                        try clear c21b0
                        try clear c21b1
                        try clear c23
                        try clear c23b0
                        try clear c24
                        try clear c24b0
                        try clear p25
                        try clear q25
                        try clear hx25
                        try clear c26
                        try clear c26b0
                        try clear c26b1
                        try clear p1
                        try clear p14
                        try clear p2
                        try clear p25
                        try clear p5
                        try clear p6
                        try clear q1
                        try clear q14
                        try clear q25
                        try clear q5
                        obtain ⟨x4_4, x5_4, x9_4, x11_4, rfl, rfl, rfl, rfl, HA, HK4, HO_10, HB⟩ := hrel
                        cases gk with
                        | zero => exact absurd HA.out (by simp [remontoirref02_Parse.l0])
                        | succ k4 =>
                          have H := HA.out
                          clear HA
                          simp only [remontoirref02_Parse.l0] at H
                          by_cases c29 : x11_4 < 3
                          · rw [if_pos c29] at H
                            have c29b0 : decide (x11_4 < 3) = true := decide_eq_true c29
                            clear c29
                            replace H := Option.bind_eq_some_iff.mp H
                            obtain ⟨⟨t147, t148, t149⟩, A300, H⟩ := H
                            replace H : (if t149 = true then (if t148 < (a0.size : Int) then (if 0 ≤ t148 then (if 0 ≤ x11_4 then (if (bt a0 t148) = (bt (⟨#[72, 77, 83]⟩ : ByteArray) x11_4) then (if x11_4 < (y144.length : Int) then ((remontoirref02_add.f x5_4 t147 (rd y144 x11_4)).bind fun t151 => (remontoirref02_Parse.l0 k4 a0 (wrap64 (t148 + 1)) t151 true y144 (wrap64 (x11_4 + 1)))) else (none)) else (remontoirref02_Parse.l0 k4 a0 x4_4 x5_4 x9_4 y144 (wrap64 (x11_4 + 1)))) else (none)) else (none)) else (remontoirref02_Parse.l0 k4 a0 x4_4 x5_4 x9_4 y144 (wrap64 (x11_4 + 1)))) else (remontoirref02_Parse.l0 k4 a0 x4_4 x5_4 x9_4 y144 (wrap64 (x11_4 + 1)))) = some (r1, r2) := H
                            have A30 := Aside0.mk A300
                            clear A300
                            by_cases c31 : t149 = true
                            · subst c31
                              have H1 : (if t148 < (a0.size : Int) then (if 0 ≤ t148 then (if 0 ≤ x11_4 then (if (bt a0 t148) = (bt (⟨#[72, 77, 83]⟩ : ByteArray) x11_4) then (if x11_4 < (y144.length : Int) then ((remontoirref02_add.f x5_4 t147 (rd y144 x11_4)).bind fun t151 => (remontoirref02_Parse.l0 k4 a0 (wrap64 (t148 + 1)) t151 true y144 (wrap64 (x11_4 + 1)))) else (none)) else (remontoirref02_Parse.l0 k4 a0 x4_4 x5_4 x9_4 y144 (wrap64 (x11_4 + 1)))) else (none)) else (none)) else (remontoirref02_Parse.l0 k4 a0 x4_4 x5_4 x9_4 y144 (wrap64 (x11_4 + 1)))) = some (r1, r2) := by rw [if_pos rfl] at H; exact H
                              clear H
                              have H := H1
                              clear H1
                              by_cases c32 : t148 < (a0.size : Int)
                              · rw [if_pos c32] at H
                                have c32b0 : decide (t148 < (a0.size : Int)) = true := decide_eq_true c32
                                clear c32
                                by_cases c33 : 0 ≤ t148
                                · rw [if_pos c33] at H
                                  have c33b0 : decide (0 ≤ t148) = true := decide_eq_true c33
                                  clear c33
                                  by_cases c35 : 0 ≤ x11_4
                                  · rw [if_pos c35] at H
                                    have c35b0 : decide (0 ≤ x11_4) = true := decide_eq_true c35
                                    clear c35
                                    by_cases c37 : (bt a0 t148) = (bt (⟨#[72, 77, 83]⟩ : ByteArray) x11_4)
                                    · rw [if_pos c37] at H
                                      have c37b0 : ((bt a0 t148) == (bt (⟨#[72, 77, 83]⟩ : ByteArray) x11_4)) = true := beq_iff_eq.mpr c37
                                      have c37b1 : ((bt a0 t148) != (bt (⟨#[72, 77, 83]⟩ : ByteArray) x11_4)) = false := bne_eq_false_iff_eq.mpr c37
                                      clear c37
                                      by_cases c38 : x11_4 < (y144.length : Int)
                                      · rw [if_pos c38] at H
                                        have c38b0 : decide (x11_4 < (y144.length : Int)) = true := decide_eq_true c38
                                        clear c38
                                        replace H := Option.bind_eq_some_iff.mp H
                                        obtain ⟨t151, A390, H⟩ := H
                                        replace H : (remontoirref02_Parse.l0 k4 a0 (wrap64 (t148 + 1)) t151 true y144 (wrap64 (x11_4 + 1))) = some (r1, r2) := H
                                        have A39 := Aside0.mk A390
                                        clear A390
                                        have H' := Aside0.mk H
                                        clear H
                                        go_wp2_with (first | (go_at_call 40; (with_reducible refine (remontoirref02_number.calls k4 a0 x4_4 t147 t148 true _ A30.out).mono ?_); rintro e w' ⟨rfl, ⟨nd, rfl⟩⟩; (try first | exact ⟨rfl, _, World.drewN_drewN _ _ _⟩ | exact ⟨rfl, _, Eq.trans (World.drewN_drewN _ _ _) (congrArg (World.drewN _) (Nat.add_assoc _ _ _))⟩); have p34 : 0 ≤ (t148 : Int) := of_decide_eq_true (by first | (with_reducible assumption) | assumption); have q34 : t148 < (a0.size : Int) := of_decide_eq_true (by first | (with_reducible assumption) | assumption); have hx34 := bt_at a0 t148; replace p34 := eq_true p34; replace q34 := eq_true q34; have p36 : 0 ≤ (x11_4 : Int) := of_decide_eq_true (by first | (with_reducible assumption) | assumption); have q36 : x11_4 < (3 : Int) := of_decide_eq_true (by first | (with_reducible assumption) | assumption); have hx36 := bt_at (⟨#[72, 77, 83]⟩ : ByteArray) x11_4; replace p36 := eq_true p36; replace q36 := eq_true q36; obtain ⟨Ao40, co40, eo40⟩ := Kd.R_slice HO_10.out; subst eo40; have p150 : 0 ≤ (x11_4 : Int) := of_decide_eq_true (by first | (with_reducible assumption) | assumption); have q150 : x11_4 < (y144.length : Int) := of_decide_eq_true (by first | (with_reducible assumption) | assumption); obtain ⟨ad150, e150, hx150_0⟩ := Kd.at_int (Kd.R_reads' HO_10.out).2.2 x11_4 p150 q150; cases e150; replace p150 := eq_true p150; replace q150 := eq_true q150) | (go_at_call 41; (with_reducible refine (remontoirref02_add.calls x5_4 t147 (rd y144 x11_4) t151 _ A39.out).mono ?_); rintro e w' ⟨rfl, ⟨nd, rfl⟩⟩; (try first | exact ⟨rfl, _, World.drewN_drewN _ _ _⟩ | exact ⟨rfl, _, Eq.trans (World.drewN_drewN _ _ _) (congrArg (World.drewN _) (Nat.add_assoc _ _ _))⟩)))
                                        repeat (go_quiet (first | (go_at_call 40; (with_reducible refine (remontoirref02_number.calls k4 a0 x4_4 t147 t148 true _ A30.out).mono ?_); rintro e w' ⟨rfl, ⟨nd, rfl⟩⟩; (try first | exact ⟨rfl, _, World.drewN_drewN _ _ _⟩ | exact ⟨rfl, _, Eq.trans (World.drewN_drewN _ _ _) (congrArg (World.drewN _) (Nat.add_assoc _ _ _))⟩); have p34 : 0 ≤ (t148 : Int) := of_decide_eq_true (by first | (with_reducible assumption) | assumption); have q34 : t148 < (a0.size : Int) := of_decide_eq_true (by first | (with_reducible assumption) | assumption); have hx34 := bt_at a0 t148; replace p34 := eq_true p34; replace q34 := eq_true q34; have p36 : 0 ≤ (x11_4 : Int) := of_decide_eq_true (by first | (with_reducible assumption) | assumption); have q36 : x11_4 < (3 : Int) := of_decide_eq_true (by first | (with_reducible assumption) | assumption); have hx36 := bt_at (⟨#[72, 77, 83]⟩ : ByteArray) x11_4; replace p36 := eq_true p36; replace q36 := eq_true q36; obtain ⟨Ao40, co40, eo40⟩ := Kd.R_slice HO_10.out; subst eo40; have p150 : 0 ≤ (x11_4 : Int) := of_decide_eq_true (by first | (with_reducible assumption) | assumption); have q150 : x11_4 < (y144.length : Int) := of_decide_eq_true (by first | (with_reducible assumption) | assumption); obtain ⟨ad150, e150, hx150_0⟩ := Kd.at_int (Kd.R_reads' HO_10.out).2.2 x11_4 p150 q150; cases e150; replace p150 := eq_true p150; replace q150 := eq_true q150) | (go_at_call 41; (with_reducible refine (remontoirref02_add.calls x5_4 t147 (rd y144 x11_4) t151 _ A39.out).mono ?_); rintro e w' ⟨rfl, ⟨nd, rfl⟩⟩; (try first | exact ⟨rfl, _, World.drewN_drewN _ _ _⟩ | exact ⟨rfl, _, Eq.trans (World.drewN_drewN _ _ _) (congrArg (World.drewN _) (Nat.add_assoc _ _ _))⟩))); try go_wp2_with (first | (go_at_call 40; (with_reducible refine (remontoirref02_number.calls k4 a0 x4_4 t147 t148 true _ A30.out).mono ?_); rintro e w' ⟨rfl, ⟨nd, rfl⟩⟩; (try first | exact ⟨rfl, _, World.drewN_drewN _ _ _⟩ | exact ⟨rfl, _, Eq.trans (World.drewN_drewN _ _ _) (congrArg (World.drewN _) (Nat.add_assoc _ _ _))⟩); have p34 : 0 ≤ (t148 : Int) := of_decide_eq_true (by first | (with_reducible assumption) | assumption); have q34 : t148 < (a0.size : Int) := of_decide_eq_true (by first | (with_reducible assumption) | assumption); have hx34 := bt_at a0 t148; replace p34 := eq_true p34; replace q34 := eq_true q34; have p36 : 0 ≤ (x11_4 : Int) := of_decide_eq_true (by first | (with_reducible assumption) | assumption); have q36 : x11_4 < (3 : Int) := of_decide_eq_true (by first | (with_reducible assumption) | assumption); have hx36 := bt_at (⟨#[72, 77, 83]⟩ : ByteArray) x11_4; replace p36 := eq_true p36; replace q36 := eq_true q36; obtain ⟨Ao40, co40, eo40⟩ := Kd.R_slice HO_10.out; subst eo40; have p150 : 0 ≤ (x11_4 : Int) := of_decide_eq_true (by first | (with_reducible assumption) | assumption); have q150 : x11_4 < (y144.length : Int) := of_decide_eq_true (by first | (with_reducible assumption) | assumption); obtain ⟨ad150, e150, hx150_0⟩ := Kd.at_int (Kd.R_reads' HO_10.out).2.2 x11_4 p150 q150; cases e150; replace p150 := eq_true p150; replace q150 := eq_true q150) | (go_at_call 41; (with_reducible refine (remontoirref02_add.calls x5_4 t147 (rd y144 x11_4) t151 _ A39.out).mono ?_); rintro e w' ⟨rfl, ⟨nd, rfl⟩⟩; (try first | exact ⟨rfl, _, World.drewN_drewN _ _ _⟩ | exact ⟨rfl, _, Eq.trans (World.drewN_drewN _ _ _) (congrArg (World.drewN _) (Nat.add_assoc _ _ _))⟩))))
                                        go_roundg k4
                                        case measure => have := HJ1.out; have := HJ7.out; have := HJ9.out; have := HK4.out; omega
                                        case rel => exact ⟨(wrap64 (t148 + 1)), (t151), (true), (wrap64 (x11_4 + 1)), (by first | rfl | (simp; done) | (simp [*]; done)), (by first | rfl | (simp; done) | (simp [*]; done)), (by first | rfl | (simp; done) | (simp [*]; done)), (by first | rfl | (simp; done) | (simp [*]; done)), H', ⟨by have := HJ1.out; have := HJ7.out; have := HJ9.out; have := HK4.out; omega⟩, ⟨by (with_reducible repeat (first | apply Kd.R_alloc | apply Kd.R_drewN | apply Kd.R_drew)); exact HO_10.out⟩, ⟨by repeat (first | (with_reducible first | exact HB.out | apply below_alloc | apply pw_below_drewN | apply below_drew1) | exact HB.out)⟩⟩
                                      · rw [if_neg c38] at H
                                        exact absurd H (by simp)
                                    · rw [if_neg c37] at H
                                      have c37b0 : ((bt a0 t148) == (bt (⟨#[72, 77, 83]⟩ : ByteArray) x11_4)) = false := beq_eq_false_iff_ne.mpr c37
                                      have c37b1 : ((bt a0 t148) != (bt (⟨#[72, 77, 83]⟩ : ByteArray) x11_4)) = true := bne_iff_ne.mpr c37
                                      have H' := Aside0.mk H
                                      clear H
                                      go_wp2_with (first | (go_at_call 40; (with_reducible refine (remontoirref02_number.calls k4 a0 x4_4 t147 t148 true _ A30.out).mono ?_); rintro e w' ⟨rfl, ⟨nd, rfl⟩⟩; (try first | exact ⟨rfl, _, World.drewN_drewN _ _ _⟩ | exact ⟨rfl, _, Eq.trans (World.drewN_drewN _ _ _) (congrArg (World.drewN _) (Nat.add_assoc _ _ _))⟩); have p34 : 0 ≤ (t148 : Int) := of_decide_eq_true (by first | (with_reducible assumption) | assumption); have q34 : t148 < (a0.size : Int) := of_decide_eq_true (by first | (with_reducible assumption) | assumption); have hx34 := bt_at a0 t148; replace p34 := eq_true p34; replace q34 := eq_true q34; have p36 : 0 ≤ (x11_4 : Int) := of_decide_eq_true (by first | (with_reducible assumption) | assumption); have q36 : x11_4 < (3 : Int) := of_decide_eq_true (by first | (with_reducible assumption) | assumption); have hx36 := bt_at (⟨#[72, 77, 83]⟩ : ByteArray) x11_4; replace p36 := eq_true p36; replace q36 := eq_true q36))
                                      repeat (go_quiet (first | (go_at_call 40; (with_reducible refine (remontoirref02_number.calls k4 a0 x4_4 t147 t148 true _ A30.out).mono ?_); rintro e w' ⟨rfl, ⟨nd, rfl⟩⟩; (try first | exact ⟨rfl, _, World.drewN_drewN _ _ _⟩ | exact ⟨rfl, _, Eq.trans (World.drewN_drewN _ _ _) (congrArg (World.drewN _) (Nat.add_assoc _ _ _))⟩); have p34 : 0 ≤ (t148 : Int) := of_decide_eq_true (by first | (with_reducible assumption) | assumption); have q34 : t148 < (a0.size : Int) := of_decide_eq_true (by first | (with_reducible assumption) | assumption); have hx34 := bt_at a0 t148; replace p34 := eq_true p34; replace q34 := eq_true q34; have p36 : 0 ≤ (x11_4 : Int) := of_decide_eq_true (by first | (with_reducible assumption) | assumption); have q36 : x11_4 < (3 : Int) := of_decide_eq_true (by first | (with_reducible assumption) | assumption); have hx36 := bt_at (⟨#[72, 77, 83]⟩ : ByteArray) x11_4; replace p36 := eq_true p36; replace q36 := eq_true q36)); try go_wp2_with (first | (go_at_call 40; (with_reducible refine (remontoirref02_number.calls k4 a0 x4_4 t147 t148 true _ A30.out).mono ?_); rintro e w' ⟨rfl, ⟨nd, rfl⟩⟩; (try first | exact ⟨rfl, _, World.drewN_drewN _ _ _⟩ | exact ⟨rfl, _, Eq.trans (World.drewN_drewN _ _ _) (congrArg (World.drewN _) (Nat.add_assoc _ _ _))⟩); have p34 : 0 ≤ (t148 : Int) := of_decide_eq_true (by first | (with_reducible assumption) | assumption); have q34 : t148 < (a0.size : Int) := of_decide_eq_true (by first | (with_reducible assumption) | assumption); have hx34 := bt_at a0 t148; replace p34 := eq_true p34; replace q34 := eq_true q34; have p36 : 0 ≤ (x11_4 : Int) := of_decide_eq_true (by first | (with_reducible assumption) | assumption); have q36 : x11_4 < (3 : Int) := of_decide_eq_true (by first | (with_reducible assumption) | assumption); have hx36 := bt_at (⟨#[72, 77, 83]⟩ : ByteArray) x11_4; replace p36 := eq_true p36; replace q36 := eq_true q36)))
                                      go_roundg k4
                                      case measure => have := HJ1.out; have := HJ7.out; have := HJ9.out; have := HK4.out; omega
                                      case rel => exact ⟨(x4_4), (x5_4), (x9_4), (wrap64 (x11_4 + 1)), (by first | rfl | (simp; done) | (simp [*]; done)), (by first | rfl | (simp; done) | (simp [*]; done)), (by first | rfl | (simp; done) | (simp [*]; done)), (by first | rfl | (simp; done) | (simp [*]; done)), H', ⟨by have := HJ1.out; have := HJ7.out; have := HJ9.out; have := HK4.out; omega⟩, ⟨by (with_reducible repeat (first | apply Kd.R_alloc | apply Kd.R_drewN | apply Kd.R_drew)); exact HO_10.out⟩, ⟨by repeat (first | (with_reducible first | exact HB.out | apply below_alloc | apply pw_below_drewN | apply below_drew1) | exact HB.out)⟩⟩
                                  · rw [if_neg c35] at H
                                    exact absurd H (by simp)
                                · rw [if_neg c33] at H
                                  exact absurd H (by simp)
                              · rw [if_neg c32] at H
                                have c32b0 : decide (t148 < (a0.size : Int)) = false := decide_eq_false c32
                                clear c32
                                have H' := Aside0.mk H
                                clear H
                                go_wp2_with (first | (go_at_call 40; (with_reducible refine (remontoirref02_number.calls k4 a0 x4_4 t147 t148 true _ A30.out).mono ?_); rintro e w' ⟨rfl, ⟨nd, rfl⟩⟩; (try first | exact ⟨rfl, _, World.drewN_drewN _ _ _⟩ | exact ⟨rfl, _, Eq.trans (World.drewN_drewN _ _ _) (congrArg (World.drewN _) (Nat.add_assoc _ _ _))⟩)))
                                repeat (go_quiet (first | (go_at_call 40; (with_reducible refine (remontoirref02_number.calls k4 a0 x4_4 t147 t148 true _ A30.out).mono ?_); rintro e w' ⟨rfl, ⟨nd, rfl⟩⟩; (try first | exact ⟨rfl, _, World.drewN_drewN _ _ _⟩ | exact ⟨rfl, _, Eq.trans (World.drewN_drewN _ _ _) (congrArg (World.drewN _) (Nat.add_assoc _ _ _))⟩))); try go_wp2_with (first | (go_at_call 40; (with_reducible refine (remontoirref02_number.calls k4 a0 x4_4 t147 t148 true _ A30.out).mono ?_); rintro e w' ⟨rfl, ⟨nd, rfl⟩⟩; (try first | exact ⟨rfl, _, World.drewN_drewN _ _ _⟩ | exact ⟨rfl, _, Eq.trans (World.drewN_drewN _ _ _) (congrArg (World.drewN _) (Nat.add_assoc _ _ _))⟩))))
                                go_roundg k4
                                case measure => have := HJ1.out; have := HJ7.out; have := HJ9.out; have := HK4.out; omega
                                case rel => exact ⟨(x4_4), (x5_4), (x9_4), (wrap64 (x11_4 + 1)), (by first | rfl | (simp; done) | (simp [*]; done)), (by first | rfl | (simp; done) | (simp [*]; done)), (by first | rfl | (simp; done) | (simp [*]; done)), (by first | rfl | (simp; done) | (simp [*]; done)), H', ⟨by have := HJ1.out; have := HJ7.out; have := HJ9.out; have := HK4.out; omega⟩, ⟨by (with_reducible repeat (first | apply Kd.R_alloc | apply Kd.R_drewN | apply Kd.R_drew)); exact HO_10.out⟩, ⟨by repeat (first | (with_reducible first | exact HB.out | apply below_alloc | apply pw_below_drewN | apply below_drew1) | exact HB.out)⟩⟩
                            · replace c31 := Bool.eq_false_iff.mpr c31
                              subst c31
                              have H1 : (remontoirref02_Parse.l0 k4 a0 x4_4 x5_4 x9_4 y144 (wrap64 (x11_4 + 1))) = some (r1, r2) := by rw [if_neg (show ¬ (false = true) by decide)] at H; exact H
                              clear H
                              have H := H1
                              clear H1
                              have H' := Aside0.mk H
                              clear H
                              go_wp2_with (first | (go_at_call 40; (with_reducible refine (remontoirref02_number.calls k4 a0 x4_4 t147 t148 false _ A30.out).mono ?_); rintro e w' ⟨rfl, ⟨nd, rfl⟩⟩; (try first | exact ⟨rfl, _, World.drewN_drewN _ _ _⟩ | exact ⟨rfl, _, Eq.trans (World.drewN_drewN _ _ _) (congrArg (World.drewN _) (Nat.add_assoc _ _ _))⟩)))
                              repeat (go_quiet (first | (go_at_call 40; (with_reducible refine (remontoirref02_number.calls k4 a0 x4_4 t147 t148 false _ A30.out).mono ?_); rintro e w' ⟨rfl, ⟨nd, rfl⟩⟩; (try first | exact ⟨rfl, _, World.drewN_drewN _ _ _⟩ | exact ⟨rfl, _, Eq.trans (World.drewN_drewN _ _ _) (congrArg (World.drewN _) (Nat.add_assoc _ _ _))⟩))); try go_wp2_with (first | (go_at_call 40; (with_reducible refine (remontoirref02_number.calls k4 a0 x4_4 t147 t148 false _ A30.out).mono ?_); rintro e w' ⟨rfl, ⟨nd, rfl⟩⟩; (try first | exact ⟨rfl, _, World.drewN_drewN _ _ _⟩ | exact ⟨rfl, _, Eq.trans (World.drewN_drewN _ _ _) (congrArg (World.drewN _) (Nat.add_assoc _ _ _))⟩))))
                              go_roundg k4
                              case measure => have := HJ1.out; have := HJ7.out; have := HJ9.out; have := HK4.out; omega
                              case rel => exact ⟨(x4_4), (x5_4), (x9_4), (wrap64 (x11_4 + 1)), (by first | rfl | (simp; done) | (simp [*]; done)), (by first | rfl | (simp; done) | (simp [*]; done)), (by first | rfl | (simp; done) | (simp [*]; done)), (by first | rfl | (simp; done) | (simp [*]; done)), H', ⟨by have := HJ1.out; have := HJ7.out; have := HJ9.out; have := HK4.out; omega⟩, ⟨by (with_reducible repeat (first | apply Kd.R_alloc | apply Kd.R_drewN | apply Kd.R_drew)); exact HO_10.out⟩, ⟨by repeat (first | (with_reducible first | exact HB.out | apply below_alloc | apply pw_below_drewN | apply below_drew1) | exact HB.out)⟩⟩
                          · rw [if_neg c29] at H
                            have c29b0 : decide (x11_4 < 3) = false := decide_eq_false c29
                            clear c29
                            have HC41 := Aside0.mk H
                            clear H
                            go_upto_region 29 with (fail)
                            repeat (go_quiet (fail); go_upto_region 29 with (fail))
                            go_cut [111] (fun v111 wc => ∃ (kq : Nat) (x111_40 : Bool), v111 = .bool x111_40 ∧ Aside0 (remontoirref02_Parse.j5 kq x5_4 x111_40 = some (r1, r2)) ∧ Aside0 (kq ≤ k4) ∧ Aside0 (Below w.heap.size w wc))
                            case first =>
                              have H := HC41.out
                              clear HC41
                              by_cases c42 : x9_4 = true
                              · subst c42
                                have H1 : (remontoirref02_Parse.j5 k4 x5_4 (x4_4 != (a0.size : Int))) = some (r1, r2) := by rw [if_pos rfl] at H; exact H
                                clear H
                                have H := H1
                                clear H1
                                have H' := Aside0.mk H
                                clear H
                                go_wp2
                                repeat (go_quiet (fail); try go_wp2)
                                go_meet
                                case rel => exact ⟨_, ((x4_4 != (a0.size : Int))), (by first | rfl | (simp; done) | (simp [*]; done)), H', ⟨by have := HJ1.out; have := HJ7.out; have := HJ9.out; have := HK4.out; first | omega | exact Nat.le_refl _⟩, ⟨by repeat (first | (with_reducible first | exact HB.out | apply below_alloc | apply pw_below_drewN | apply below_drew1) | exact HB.out)⟩⟩
                              · replace c42 := Bool.eq_false_iff.mpr c42
                                subst c42
                                have H1 : (remontoirref02_Parse.j5 k4 x5_4 true) = some (r1, r2) := by rw [if_neg (show ¬ (false = true) by decide)] at H; exact H
                                clear H
                                have H := H1
                                clear H1
                                have H' := Aside0.mk H
                                clear H
                                go_wp2
                                repeat (go_quiet (fail); try go_wp2)
                                go_meet
                                case rel => exact ⟨_, (true), (by first | rfl | (simp; done) | (simp [*]; done)), H', ⟨by have := HJ1.out; have := HJ7.out; have := HJ9.out; have := HK4.out; first | omega | exact Nat.le_refl _⟩, ⟨by repeat (first | (with_reducible first | exact HB.out | apply below_alloc | apply pw_below_drewN | apply below_drew1) | exact HB.out)⟩⟩
                            case rest =>
                              clear HC41
                              try clear c1
                              try clear p1
                              try clear q1
                              try clear hx1
                              try clear c2
                              try clear p2
                              try clear q2
                              try clear hx2
                              try clear c3
                              try clear c3b0
                              try clear c3b1
                              try clear p3
                              try clear q3
                              try clear hx3
                              try clear c4
                              try clear c4b0
                              try clear c4b1
                              try clear p5
                              try clear q5
                              try clear hx5
                              try clear qi5
                              try clear c6
                              try clear p6
                              try clear c9
                              try clear c11
                              try clear c12
                              try clear c12b0
                              try clear c13
                              try clear c13b0
                              try clear p14
                              try clear q14
                              try clear hx14
                              try clear p15
                              try clear q15
                              try clear hx15
                              try clear c16
                              try clear c16b0
                              try clear c16b1
                              try clear c17
                              try clear c18
                              try clear c18b0
                              try clear c18b1
                              try clear c20
                              try clear c20b0
                              try clear c20b1
                              try clear c21
                              try clear c21b0
                              try clear c21b1
                              try clear c23
                              try clear c23b0
                              try clear c24
                              try clear c24b0
                              try clear p25
                              try clear q25
                              try clear hx25
                              try clear c26
                              try clear c26b0
                              try clear c26b1
                              try clear c29
                              try clear c29b0
                              try clear c31
                              try clear c32
                              try clear c32b0
                              try clear c33
                              try clear c33b0
                              try clear p34
                              try clear q34
                              try clear hx34
                              try clear c35
                              try clear c35b0
                              try clear p36
                              try clear q36
                              try clear hx36
                              try clear c37
                              try clear c37b0
                              try clear c37b1
                              try clear c38
                              try clear c38b0
                              try clear c42
                              try clear hx150_0
                              try clear p1
                              try clear p14
                              try clear p150
                              try clear p2
                              try clear p25
                              try clear p34
                              try clear p36
                              try clear p5
                              try clear p6
                              try clear q1
                              try clear q14
                              try clear q150
                              try clear q2
                              try clear q25
                              try clear q34
                              try clear q36
                              try clear q5
                              obtain ⟨kq, x111_40, rfl, HA, HJ40, HB⟩ := hcut
                              cases kq with
                              | zero => exact absurd HA.out (by simp [remontoirref02_Parse.j5])
                              | succ kj40 =>
                                have H := HA.out
                                clear HA
                                simp only [remontoirref02_Parse.j5] at H
                                by_cases c43 : x111_40 = true
                                · subst c43
                                  have H1 : (some (0, 2)) = some (r1, r2) := by rw [if_pos rfl] at H; exact H
                                  clear H
                                  have H := H1
                                  clear H1
                                  simp only [Option.some.injEq, Prod.mk.injEq] at H
                                  obtain ⟨rfl, rfl⟩ := H
                                  go_wp2
                                  repeat (go_quiet (fail); try go_wp2)
                                  go_ret2
                                  exact ⟨by first | rfl | (simp [errW_none, errW_some] <;> rfl) | (simp [*, errW_none, errW_some] <;> rfl), by repeat (first | (with_reducible first | exact HB.out | apply below_alloc | apply pw_below_drewN | apply below_drew1) | exact HB.out)⟩
                                · replace c43 := Bool.eq_false_iff.mpr c43
                                  subst c43
                                  have H1 : (if x5_4 > 1125899906842624 then (some (0, 3)) else (some (x5_4, 0))) = some (r1, r2) := by rw [if_neg (show ¬ (false = true) by decide)] at H; exact H
                                  clear H
                                  have H := H1
                                  clear H1
                                  by_cases c44 : x5_4 > 1125899906842624
                                  · rw [if_pos c44] at H
                                    have c44b0 : decide (1125899906842624 < x5_4) = true := decide_eq_true c44
                                    clear c44
                                    simp only [Option.some.injEq, Prod.mk.injEq] at H
                                    obtain ⟨rfl, rfl⟩ := H
                                    go_wp2
                                    repeat (go_quiet (fail); try go_wp2)
                                    go_ret2
                                    exact ⟨by first | rfl | (simp [errW_none, errW_some] <;> rfl) | (simp [*, errW_none, errW_some] <;> rfl), by repeat (first | (with_reducible first | exact HB.out | apply below_alloc | apply pw_below_drewN | apply below_drew1) | exact HB.out)⟩
                                  · rw [if_neg c44] at H
                                    have c44b0 : decide (1125899906842624 < x5_4) = false := decide_eq_false c44
                                    clear c44
                                    simp only [Option.some.injEq, Prod.mk.injEq] at H
                                    obtain ⟨rfl, rfl⟩ := H
                                    go_wp2
                                    repeat (go_quiet (fail); try go_wp2)
                                    go_ret2
                                    exact ⟨by first | rfl | (simp [errW_none, errW_some] <;> rfl) | (simp [*, errW_none, errW_some] <;> rfl), by repeat (first | (with_reducible first | exact HB.out | apply below_alloc | apply pw_below_drewN | apply below_drew1) | exact HB.out)⟩
                    · rw [if_neg c26] at H
                      have c26b0 : ((bt a0 x4_9) == 84) = false := beq_eq_false_iff_ne.mpr c26
                      have c26b1 : ((bt a0 x4_9) != 84) = true := bne_iff_ne.mpr c26
                      simp only [Option.some.injEq, Prod.mk.injEq] at H
                      obtain ⟨rfl, rfl⟩ := H
                      have p25 : 0 ≤ (x4_9 : Int) := of_decide_eq_true (by first | (with_reducible assumption) | assumption)
                      have q25 : x4_9 < (a0.size : Int) := of_decide_eq_true (by first | (with_reducible assumption) | assumption)
                      have hx25 := bt_at a0 x4_9
                      replace p25 := eq_true p25
                      replace q25 := eq_true q25
                      go_wp2
                      repeat (go_quiet (fail); try go_wp2)
                      go_ret2
                      exact ⟨by first | rfl | (simp [errW_none, errW_some] <;> rfl) | (simp [*, errW_none, errW_some] <;> rfl), by repeat (first | (with_reducible first | exact HB.out | apply below_alloc | apply pw_below_drewN | apply below_drew1) | exact HB.out)⟩
                  · rw [if_neg c24] at H
                    exact absurd H (by simp)
                · rw [if_neg c23] at H
                  have c23b0 : decide (x4_9 < (a0.size : Int)) = false := decide_eq_false c23
                  clear c23
                  by_cases c45 : x5_9 > 1125899906842624
                  · rw [if_pos c45] at H
                    have c45b0 : decide (1125899906842624 < x5_9) = true := decide_eq_true c45
                    clear c45
                    simp only [Option.some.injEq, Prod.mk.injEq] at H
                    obtain ⟨rfl, rfl⟩ := H
                    go_wp2
                    repeat (go_quiet (fail); try go_wp2)
                    go_ret2
                    exact ⟨by first | rfl | (simp [errW_none, errW_some] <;> rfl) | (simp [*, errW_none, errW_some] <;> rfl), by repeat (first | (with_reducible first | exact HB.out | apply below_alloc | apply pw_below_drewN | apply below_drew1) | exact HB.out)⟩
                  · rw [if_neg c45] at H
                    have c45b0 : decide (1125899906842624 < x5_9) = false := decide_eq_false c45
                    clear c45
                    simp only [Option.some.injEq, Prod.mk.injEq] at H
                    obtain ⟨rfl, rfl⟩ := H
                    go_wp2
                    repeat (go_quiet (fail); try go_wp2)
                    go_ret2
                    exact ⟨by first | rfl | (simp [errW_none, errW_some] <;> rfl) | (simp [*, errW_none, errW_some] <;> rfl), by repeat (first | (with_reducible first | exact HB.out | apply below_alloc | apply pw_below_drewN | apply below_drew1) | exact HB.out)⟩

end Go.Proofs.YtjkdibkgmfnkdaaDoor.Q
