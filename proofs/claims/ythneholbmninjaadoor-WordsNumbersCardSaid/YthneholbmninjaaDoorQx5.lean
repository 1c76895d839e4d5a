/- What Go functions compute, as plain Lean functions, and that the machine comes to just that: written by wip/tools/printx.py (my run of the printer, with contracts of mine beside it). -/
import Derived.Test.YthneholbmninjaaDoorQx0
import Derived.Test.YthneholbmninjaaDoorQx1
import Derived.Test.YthneholbmninjaaDoorQx2
import Derived.Test.YthneholbmninjaaDoorQx4
namespace Go.Proofs.YthneholbmninjaaDoor.Q
open Go.Proofs.YthneholbmninjaaDoor.Ext Go.RowKit Go.Proofs.YthneholbmninjaaDoorW.PrintWords Go.Proofs.YthneholbmninjaaDoorW.PrintLast Go.Proofs.YthneholbmninjaaDoorW.PrintMore
attribute [local go_sem] max2_int min2_int max_two min_two max_three min_three max_four min_four   -- for this text's walks alone
set_option linter.unusedVariables false
set_option linter.unusedSimpArgs false

/-! ### remontoirlaw16_WordsNumbers: function 5 -/
mutual
def remontoirlaw16_WordsNumbers.j0 : Nat → ByteArray → Bool → Option (Bool)
  | 0, _, _ => none
  | k + 1, x6, x61 => if x61 = true then (some false) else (if 1 + x6.size ≤ 9223372036854775807 then (if x6.size + 1 ≤ 9223372036854775807 then (if x6.size + 9 ≤ 9223372036854775807 then ((some (([(⟨#[48]⟩ : ByteArray) ++ x6, (⟨#[43]⟩ : ByteArray) ++ x6, (⟨#[45]⟩ : ByteArray) ++ x6, x6 ++ (⟨#[32]⟩ : ByteArray), x6 ++ (⟨#[97]⟩ : ByteArray), x6 ++ (⟨#[48, 48, 48, 48, 48, 48, 48, 48, 48]⟩ : ByteArray), (⟨#[]⟩ : ByteArray)] : List ByteArray) : List ByteArray)).bind fun y196 => (remontoirlaw16_WordsNumbers.l0 k y196 (y196.length : Int) 0)) else (none)) else (none)) else (none))
def remontoirlaw16_WordsNumbers.l0 : Nat → List ByteArray → Int → Int → Option (Bool)
  | 0, _, _, _ => none
  | k + 1, x74, x75, x76 => if x76 < x75 then (if 0 ≤ x76 then (if x76 < (x74.length : Int) then ((words_Number.f k (rdOf ByteArray.empty x74 x76) 4611686018427387904).bind fun bt200 => (if bt200.2 = true then (some false) else (if bt200.1 = 0 then (remontoirlaw16_WordsNumbers.l0 k x74 x75 (wrap64 (x76 + 1))) else (some false)))) else (none)) else (none)) else ((remontoirlaw16_wakes.f k).bind fun t202 => (some t202))
end
def remontoirlaw16_WordsNumbers.f (k : Nat) (a0 : Int) (a1 : Int) : Option (Bool) := (remontoirref02_Digits.f k (IntKind.u64.wrap (Int.tmod (wrap64 (a0)) 1000000000))).bind fun t191 => ((words_Number.f k t191 a1).bind fun bt192 => ((words_Number.f k t191 999999999).bind fun bt194 => (if (bt192.2 != (decide ((Int.tmod (wrap64 (a0)) 1000000000) ≤ a1))) = true then (remontoirlaw16_WordsNumbers.j0 k t191 true) else (if bt192.2 = true then (if bt192.1 = (Int.tmod (wrap64 (a0)) 1000000000) then (if bt194.2 = true then (remontoirlaw16_WordsNumbers.j0 k t191 (bt194.1 != (Int.tmod (wrap64 (a0)) 1000000000))) else (remontoirlaw16_WordsNumbers.j0 k t191 true)) else (remontoirlaw16_WordsNumbers.j0 k t191 true)) else (if bt192.1 = 0 then (if bt194.2 = true then (remontoirlaw16_WordsNumbers.j0 k t191 (bt194.1 != (Int.tmod (wrap64 (a0)) 1000000000))) else (remontoirlaw16_WordsNumbers.j0 k t191 true)) else (remontoirlaw16_WordsNumbers.j0 k t191 true))))))
theorem remontoirlaw16_WordsNumbers.mono_l : ∀ k, (∀ y0 y1, LeO (remontoirlaw16_WordsNumbers.j0 k y0 y1) (remontoirlaw16_WordsNumbers.j0 (k + 1) y0 y1)) ∧ (∀ y0 y1 y2, LeO (remontoirlaw16_WordsNumbers.l0 k y0 y1 y2) (remontoirlaw16_WordsNumbers.l0 (k + 1) y0 y1 y2))
  | 0 => ⟨fun _ _ r h => by simp [remontoirlaw16_WordsNumbers.j0] at h, fun _ _ _ r h => by simp [remontoirlaw16_WordsNumbers.l0] at h⟩
  | k + 1 => by
    obtain ⟨ih0, ih1⟩ := remontoirlaw16_WordsNumbers.mono_l k
    refine ⟨?_, ?_⟩
    · intro y0 y1
      unfold remontoirlaw16_WordsNumbers.j0
      repeat' first
      | (with_reducible exact ih0 _ _)
      | (with_reducible exact ih1 _ _ _)
      | (with_reducible exact remontoirlaw16_wakes.mono _)
      | (with_reducible exact remontoirref02_Digits.mono _ _)
      | (with_reducible exact words_Number.mono _ _ _)
      | (with_reducible exact LeO.refl _)
      | (with_reducible exact LeO.none _)
      | (with_reducible refine LeO.ite ?_ ?_)
      | (with_reducible refine LeO.bind ?_ (fun _ => ?_))
      | exact ih0 _ _
      | exact ih1 _ _ _
      | exact remontoirlaw16_wakes.mono _
      | exact remontoirref02_Digits.mono _ _
      | exact words_Number.mono _ _ _
      | exact LeO.none _
      | refine LeO.ite ?_ ?_
      | refine LeO.bind ?_ (fun _ => ?_)
    · intro y0 y1 y2
      unfold remontoirlaw16_WordsNumbers.l0
      repeat' first
      | (with_reducible exact ih0 _ _)
      | (with_reducible exact ih1 _ _ _)
      | (with_reducible exact remontoirlaw16_wakes.mono _)
      | (with_reducible exact remontoirref02_Digits.mono _ _)
      | (with_reducible exact words_Number.mono _ _ _)
      | (with_reducible exact LeO.refl _)
      | (with_reducible exact LeO.none _)
      | (with_reducible refine LeO.ite ?_ ?_)
      | (with_reducible refine LeO.bind ?_ (fun _ => ?_))
      | exact ih0 _ _
      | exact ih1 _ _ _
      | exact remontoirlaw16_wakes.mono _
      | exact remontoirref02_Digits.mono _ _
      | exact words_Number.mono _ _ _
      | exact LeO.none _
      | refine LeO.ite ?_ ?_
      | refine LeO.bind ?_ (fun _ => ?_)
theorem remontoirlaw16_WordsNumbers.mono : ∀ a0 a1 k, LeO (remontoirlaw16_WordsNumbers.f k a0 a1) (remontoirlaw16_WordsNumbers.f (k + 1) a0 a1) := by
  intro a0 a1 k
  obtain ⟨ih0, ih1⟩ := remontoirlaw16_WordsNumbers.mono_l k
  unfold remontoirlaw16_WordsNumbers.f
  repeat' first
      | (with_reducible exact ih0 _ _)
      | (with_reducible exact ih1 _ _ _)
      | (with_reducible exact remontoirlaw16_wakes.mono _)
      | (with_reducible exact remontoirref02_Digits.mono _ _)
      | (with_reducible exact words_Number.mono _ _ _)
      | (with_reducible exact LeO.refl _)
      | (with_reducible exact LeO.none _)
      | (with_reducible refine LeO.ite ?_ ?_)
      | (with_reducible refine LeO.bind ?_ (fun _ => ?_))
      | exact ih0 _ _
      | exact ih1 _ _ _
      | exact remontoirlaw16_wakes.mono _
      | exact remontoirref02_Digits.mono _ _
      | exact words_Number.mono _ _ _
      | exact LeO.none _
      | refine LeO.ite ?_ ?_
      | refine LeO.bind ?_ (fun _ => ?_)
set_option maxHeartbeats 8000000 in
set_option maxRecDepth 100000 in
theorem remontoirlaw16_WordsNumbers.calls (k : Nat) (a0 : Int) (a1 : Int) (r : Bool) (w : World) (h : remontoirlaw16_WordsNumbers.f k a0 a1 = some r) :
    Calls Tryd.prog 5 #[.int .u32 a0, .int .i64 a1] w fun e w' => e = .returned (.bool r) ∧ Below w.heap.size w w' := by
  have HB := Aside0.mk (Below.refl w.heap.size w)
  have H : ((remontoirref02_Digits.f k (IntKind.u64.wrap (Int.tmod (wrap64 (a0)) 1000000000))).bind fun t191 => ((words_Number.f k t191 a1).bind fun bt192 => ((words_Number.f k t191 999999999).bind fun bt194 => (if (bt192.2 != (decide ((Int.tmod (wrap64 (a0)) 1000000000) ≤ a1))) = true then (remontoirlaw16_WordsNumbers.j0 k t191 true) else (if bt192.2 = true then (if bt192.1 = (Int.tmod (wrap64 (a0)) 1000000000) then (if bt194.2 = true then (remontoirlaw16_WordsNumbers.j0 k t191 (bt194.1 != (Int.tmod (wrap64 (a0)) 1000000000))) else (remontoirlaw16_WordsNumbers.j0 k t191 true)) else (remontoirlaw16_WordsNumbers.j0 k t191 true)) else (if bt192.1 = 0 then (if bt194.2 = true then (remontoirlaw16_WordsNumbers.j0 k t191 (bt194.1 != (Int.tmod (wrap64 (a0)) 1000000000))) else (remontoirlaw16_WordsNumbers.j0 k t191 true)) else (remontoirlaw16_WordsNumbers.j0 k t191 true))))))) = some r := h
  clear h
  replace H := Option.bind_eq_some_iff.mp H
  obtain ⟨t191, A30, H⟩ := H
  replace H : ((words_Number.f k t191 a1).bind fun bt192 => ((words_Number.f k t191 999999999).bind fun bt194 => (if (bt192.2 != (decide ((Int.tmod (wrap64 (a0)) 1000000000) ≤ a1))) = true then (remontoirlaw16_WordsNumbers.j0 k t191 true) else (if bt192.2 = true then (if bt192.1 = (Int.tmod (wrap64 (a0)) 1000000000) then (if bt194.2 = true then (remontoirlaw16_WordsNumbers.j0 k t191 (bt194.1 != (Int.tmod (wrap64 (a0)) 1000000000))) else (remontoirlaw16_WordsNumbers.j0 k t191 true)) else (remontoirlaw16_WordsNumbers.j0 k t191 true)) else (if bt192.1 = 0 then (if bt194.2 = true then (remontoirlaw16_WordsNumbers.j0 k t191 (bt194.1 != (Int.tmod (wrap64 (a0)) 1000000000))) else (remontoirlaw16_WordsNumbers.j0 k t191 true)) else (remontoirlaw16_WordsNumbers.j0 k t191 true)))))) = some r := H
  have A3 := Aside0.mk A30
  clear A30
  replace H := Option.bind_eq_some_iff.mp H
  obtain ⟨⟨t192, t193⟩, A40, H⟩ := H
  replace H : ((words_Number.f k t191 999999999).bind fun bt194 => (if (t193 != (decide ((Int.tmod (wrap64 (a0)) 1000000000) ≤ a1))) = true then (remontoirlaw16_WordsNumbers.j0 k t191 true) else (if t193 = true then (if t192 = (Int.tmod (wrap64 (a0)) 1000000000) then (if bt194.2 = true then (remontoirlaw16_WordsNumbers.j0 k t191 (bt194.1 != (Int.tmod (wrap64 (a0)) 1000000000))) else (remontoirlaw16_WordsNumbers.j0 k t191 true)) else (remontoirlaw16_WordsNumbers.j0 k t191 true)) else (if t192 = 0 then (if bt194.2 = true then (remontoirlaw16_WordsNumbers.j0 k t191 (bt194.1 != (Int.tmod (wrap64 (a0)) 1000000000))) else (remontoirlaw16_WordsNumbers.j0 k t191 true)) else (remontoirlaw16_WordsNumbers.j0 k t191 true))))) = some r := H
  have A4 := Aside0.mk A40
  clear A40
  replace H := Option.bind_eq_some_iff.mp H
  obtain ⟨⟨t194, t195⟩, A50, H⟩ := H
  replace H : (if (t193 != (decide ((Int.tmod (wrap64 (a0)) 1000000000) ≤ a1))) = true then (remontoirlaw16_WordsNumbers.j0 k t191 true) else (if t193 = true then (if t192 = (Int.tmod (wrap64 (a0)) 1000000000) then (if t195 = true then (remontoirlaw16_WordsNumbers.j0 k t191 (t194 != (Int.tmod (wrap64 (a0)) 1000000000))) else (remontoirlaw16_WordsNumbers.j0 k t191 true)) else (remontoirlaw16_WordsNumbers.j0 k t191 true)) else (if t192 = 0 then (if t195 = true then (remontoirlaw16_WordsNumbers.j0 k t191 (t194 != (Int.tmod (wrap64 (a0)) 1000000000))) else (remontoirlaw16_WordsNumbers.j0 k t191 true)) else (remontoirlaw16_WordsNumbers.j0 k t191 true)))) = some r := H
  have A5 := Aside0.mk A50
  clear A50
  have HC6 := Aside0.mk H
  clear H
  go_enter Tryd.func5, Tryd.ntmps5
  go_upto_region 5 with (first | ((with_reducible refine gate_callee (f := 14) rfl ?_); refine goesL_ (some 20) rfl rfl Tryd.func14 (by kernel_rfl) rfl #[.int .u64 (IntKind.u64.wrap (Int.tmod (wrap64 (a0)) 1000000000))] rfl (by (try simp only [List.map_toArray, List.map_cons, List.map_nil]); first | done | rfl | (simp only [List.length_drop, List.length_take]; rfl)) ?_; (with_reducible refine (remontoirref02_Digits.calls k (IntKind.u64.wrap (Int.tmod (wrap64 (a0)) 1000000000)) t191 _ A3.out).mono ?_); rintro e w7 ⟨rfl, hb⟩; refine ⟨_, rfl, ?_⟩; have n0_ := Aside0.mk (below_step (by repeat (first | (with_reducible first | exact HB.out | apply below_alloc | apply pw_below_drewN | apply below_drew1) | exact HB.out)) hb); clear HB; have HB := n0_; clear n0_; (try clear hb); (try clear hb2); (try clear hk); (try clear hi)) | ((with_reducible refine gate_callee (f := 15) rfl ?_); refine goesL_ (some 24) rfl rfl Tryd.func15 (by kernel_rfl) rfl #[.string t191, .int .i64 a1] rfl (by (try simp only [List.map_toArray, List.map_cons, List.map_nil]); first | done | rfl | (simp only [List.length_drop, List.length_take]; rfl)) ?_; (with_reducible refine (words_Number.calls k t191 a1 t192 t193 _ A4.out).mono ?_); rintro e w8 ⟨rfl, hb⟩; refine ⟨_, rfl, ?_⟩; have n0_ := Aside0.mk (below_step (by repeat (first | (with_reducible first | exact HB.out | apply below_alloc | apply pw_below_drewN | apply below_drew1) | exact HB.out)) hb); clear HB; have HB := n0_; clear n0_; (try clear hb); (try clear hb2); (try clear hk); (try clear hi)) | ((with_reducible refine gate_callee (f := 15) rfl ?_); refine goesL_ (some 29) rfl rfl Tryd.func15 (by kernel_rfl) rfl #[.string t191, .int .i64 999999999] rfl (by (try simp only [List.map_toArray, List.map_cons, List.map_nil]); first | done | rfl | (simp only [List.length_drop, List.length_take]; rfl)) ?_; (with_reducible refine (words_Number.calls k t191 999999999 t194 t195 _ A5.out).mono ?_); rintro e w9 ⟨rfl, hb⟩; refine ⟨_, rfl, ?_⟩; have n0_ := Aside0.mk (below_step (by repeat (first | (with_reducible first | exact HB.out | apply below_alloc | apply pw_below_drewN | apply below_drew1) | exact HB.out)) hb); clear HB; have HB := n0_; clear n0_; (try clear hb); (try clear hb2); (try clear hk); (try clear hi)))
  (try simp only [Act.put, List.setIfInBounds_toArray, List.set_cons_zero, List.set_cons_succ])
  go_cut [61] (fun v61 wc => ∃ (kq : Nat) (x61_5 : Bool), v61 = .bool x61_5 ∧ Aside0 (remontoirlaw16_WordsNumbers.j0 kq t191 x61_5 = some r) ∧ Aside0 (kq ≤ k) ∧ Aside0 (Below w.heap.size w wc))
  case first =>
    have H := HC6.out
    clear HC6
    by_cases c10 : (t193 != (decide ((Int.tmod (wrap64 (a0)) 1000000000) ≤ a1))) = true
    · rw [if_pos c10] at H
      have c10b0 : (t193 != (decide ((Int.tmod (wrap64 (a0)) 1000000000) ≤ a1))) = true := c10
      (try (have c10b1 : decide (t193 = (decide ((Int.tmod (wrap64 (a0)) 1000000000) ≤ a1))) = false := by simpa using c10))
      (try (have c10b2 : (t193 == (decide ((Int.tmod (wrap64 (a0)) 1000000000) ≤ a1))) = false := by simpa using c10))
      (try (have c10b3 : ¬ (t193 = (decide ((Int.tmod (wrap64 (a0)) 1000000000) ≤ a1))) := by simpa using c10))
      clear c10
      (first | rw [c10b0] | (simp only [i64_w, i32_w]; rw [c10b0]) | skip)
      have H' := Aside0.mk H
      clear H
      go_wp2
      go_meet
      case rel => exact ⟨_, (true), (by first | rfl | (simp; done) | (simp [*]; done)), H', ⟨by first | omega | exact Nat.le_refl _⟩, ⟨by repeat (first | (with_reducible first | exact HB.out | apply below_alloc | apply pw_below_drewN | apply below_drew1) | exact HB.out)⟩⟩
    · rw [if_neg c10] at H
      have c10b0 : (t193 != (decide ((Int.tmod (wrap64 (a0)) 1000000000) ≤ a1))) = false := by simpa using c10
      (try (have c10b1 : decide (t193 = (decide ((Int.tmod (wrap64 (a0)) 1000000000) ≤ a1))) = true := by simpa using c10))
      (try (have c10b2 : (t193 == (decide ((Int.tmod (wrap64 (a0)) 1000000000) ≤ a1))) = true := by simpa using c10))
      clear c10
      (first | rw [c10b0] | (simp only [i64_w, i32_w]; rw [c10b0]) | skip)
      by_cases c11 : t193 = true
      · subst c11
        have H1 : (if t192 = (Int.tmod (wrap64 (a0)) 1000000000) then (if t195 = true then (remontoirlaw16_WordsNumbers.j0 k t191 (t194 != (Int.tmod (wrap64 (a0)) 1000000000))) else (remontoirlaw16_WordsNumbers.j0 k t191 true)) else (remontoirlaw16_WordsNumbers.j0 k t191 true)) = some r := by rw [if_pos rfl] at H; exact H
        clear H
        have H := H1
        clear H1
        by_cases c12 : t192 = (Int.tmod (wrap64 (a0)) 1000000000)
        · rw [if_pos c12] at H
          have c12b0 : (t192 == (Int.tmod (wrap64 (a0)) 1000000000)) = true := beq_iff_eq.mpr c12
          have c12b1 : (t192 != (Int.tmod (wrap64 (a0)) 1000000000)) = false := bne_eq_false_iff_eq.mpr c12
          clear c12
          by_cases c13 : t195 = true
          · subst c13
            have H1 : (remontoirlaw16_WordsNumbers.j0 k t191 (t194 != (Int.tmod (wrap64 (a0)) 1000000000))) = some r := by rw [if_pos rfl] at H; exact H
            clear H
            have H := H1
            clear H1
            have H' := Aside0.mk H
            clear H
            go_wp2
            go_meet
            case rel => exact ⟨_, ((t194 != (Int.tmod (wrap64 (a0)) 1000000000))), (by first | rfl | (simp; done) | (simp [*]; done)), H', ⟨by first | omega | exact Nat.le_refl _⟩, ⟨by repeat (first | (with_reducible first | exact HB.out | apply below_alloc | apply pw_below_drewN | apply below_drew1) | exact HB.out)⟩⟩
          · replace c13 := Bool.eq_false_iff.mpr c13
            subst c13
            have H1 : (remontoirlaw16_WordsNumbers.j0 k t191 true) = some r := by rw [if_neg (show ¬ (false = true) by decide)] at H; exact H
            clear H
            have H := H1
            clear H1
            have H' := Aside0.mk H
            clear H
            go_wp2
            go_meet
            case rel => exact ⟨_, (true), (by first | rfl | (simp; done) | (simp [*]; done)), H', ⟨by first | omega | exact Nat.le_refl _⟩, ⟨by repeat (first | (with_reducible first | exact HB.out | apply below_alloc | apply pw_below_drewN | apply below_drew1) | exact HB.out)⟩⟩
        · rw [if_neg c12] at H
          have c12b0 : (t192 == (Int.tmod (wrap64 (a0)) 1000000000)) = false := beq_eq_false_iff_ne.mpr c12
          have c12b1 : (t192 != (Int.tmod (wrap64 (a0)) 1000000000)) = true := bne_iff_ne.mpr c12
          have H' := Aside0.mk H
          clear H
          go_wp2
          go_meet
          case rel => exact ⟨_, (true), (by first | rfl | (simp; done) | (simp [*]; done)), H', ⟨by first | omega | exact Nat.le_refl _⟩, ⟨by repeat (first | (with_reducible first | exact HB.out | apply below_alloc | apply pw_below_drewN | apply below_drew1) | exact HB.out)⟩⟩
      · replace c11 := Bool.eq_false_iff.mpr c11
        subst c11
        have H1 : (if t192 = 0 then (if t195 = true then (remontoirlaw16_WordsNumbers.j0 k t191 (t194 != (Int.tmod (wrap64 (a0)) 1000000000))) else (remontoirlaw16_WordsNumbers.j0 k t191 true)) else (remontoirlaw16_WordsNumbers.j0 k t191 true)) = some r := by rw [if_neg (show ¬ (false = true) by decide)] at H; exact H
        clear H
        have H := H1
        clear H1
        by_cases c14 : t192 = 0
        · rw [if_pos c14] at H
          have c14b0 : (t192 == 0) = true := beq_iff_eq.mpr c14
          have c14b1 : (t192 != 0) = false := bne_eq_false_iff_eq.mpr c14
          clear c14
          by_cases c15 : t195 = true
          · subst c15
            have H1 : (remontoirlaw16_WordsNumbers.j0 k t191 (t194 != (Int.tmod (wrap64 (a0)) 1000000000))) = some r := by rw [if_pos rfl] at H; exact H
            clear H
            have H := H1
            clear H1
            have H' := Aside0.mk H
            clear H
            go_wp2
            go_meet
            case rel => exact ⟨_, ((t194 != (Int.tmod (wrap64 (a0)) 1000000000))), (by first | rfl | (simp; done) | (simp [*]; done)), H', ⟨by first | omega | exact Nat.le_refl _⟩, ⟨by repeat (first | (with_reducible first | exact HB.out | apply below_alloc | apply pw_below_drewN | apply below_drew1) | exact HB.out)⟩⟩
          · replace c15 := Bool.eq_false_iff.mpr c15
            subst c15
            have H1 : (remontoirlaw16_WordsNumbers.j0 k t191 true) = some r := by rw [if_neg (show ¬ (false = true) by decide)] at H; exact H
            clear H
            have H := H1
            clear H1
            have H' := Aside0.mk H
            clear H
            go_wp2
            go_meet
            case rel => exact ⟨_, (true), (by first | rfl | (simp; done) | (simp [*]; done)), H', ⟨by first | omega | exact Nat.le_refl _⟩, ⟨by repeat (first | (with_reducible first | exact HB.out | apply below_alloc | apply pw_below_drewN | apply below_drew1) | exact HB.out)⟩⟩
        · rw [if_neg c14] at H
          have c14b0 : (t192 == 0) = false := beq_eq_false_iff_ne.mpr c14
          have c14b1 : (t192 != 0) = true := bne_iff_ne.mpr c14
          have H' := Aside0.mk H
          clear H
          go_wp2
          go_meet
          case rel => exact ⟨_, (true), (by first | rfl | (simp; done) | (simp [*]; done)), H', ⟨by first | omega | exact Nat.le_refl _⟩, ⟨by repeat (first | (with_reducible first | exact HB.out | apply below_alloc | apply pw_below_drewN | apply below_drew1) | exact HB.out)⟩⟩
  case rest =>
    clear HC6
    try clear c1
    try clear p2
    try clear c5
    try clear p6
    try clear c10
    try clear c10b0
    try clear c10b1
    try clear c10b2
    try clear c11
    try clear c12
    try clear c12b0
    try clear c12b1
    try clear c13
    try clear c14
    try clear c14b0
    try clear c14b1
    try clear c15
    obtain ⟨kq, x61_5, rfl, HA, HJ5, HB⟩ := hcut
    cases kq with
    | zero => exact absurd HA.out (by simp [remontoirlaw16_WordsNumbers.j0])
    | succ kj5 =>
      have H := HA.out
      clear HA
      simp only [remontoirlaw16_WordsNumbers.j0] at H
      by_cases c16 : x61_5 = true
      · subst c16
        have H1 : (some false) = some r := by rw [if_pos rfl] at H; exact H
        clear H
        have H := H1
        clear H1
        obtain rfl := Option.some.inj H
        go_wp2
        go_ret
        exact ⟨by first | rfl | (simp [errW_none, errW_some] <;> rfl) | (simp [*, errW_none, errW_some] <;> rfl), by repeat (first | (with_reducible first | exact HB.out | apply below_alloc | apply pw_below_drewN | apply below_drew1) | exact HB.out)⟩
      · replace c16 := Bool.eq_false_iff.mpr c16
        subst c16
        have H1 : (if 1 + t191.size ≤ 9223372036854775807 then (if t191.size + 1 ≤ 9223372036854775807 then (if t191.size + 9 ≤ 9223372036854775807 then ((some (([(⟨#[48]⟩ : ByteArray) ++ t191, (⟨#[43]⟩ : ByteArray) ++ t191, (⟨#[45]⟩ : ByteArray) ++ t191, t191 ++ (⟨#[32]⟩ : ByteArray), t191 ++ (⟨#[97]⟩ : ByteArray), t191 ++ (⟨#[48, 48, 48, 48, 48, 48, 48, 48, 48]⟩ : ByteArray), (⟨#[]⟩ : ByteArray)] : List ByteArray) : List ByteArray)).bind fun y196 => (remontoirlaw16_WordsNumbers.l0 kj5 y196 (y196.length : Int) 0)) else (none)) else (none)) else (none)) = some r := by rw [if_neg (show ¬ (false = true) by decide)] at H; exact H
        clear H
        have H := H1
        clear H1
        by_cases c17 : 1 + t191.size ≤ 9223372036854775807
        · rw [if_pos c17] at H
          have c17b0 := eq_true c17
          have c17b1 : decide (1 + t191.size ≤ 9223372036854775807) = true := decide_eq_true c17
          try have c17b2 : (9223372036854775807 < 1 + t191.size) = False := eq_false (Nat.not_lt.2 c17)
          by_cases c18 : t191.size + 1 ≤ 9223372036854775807
          · rw [if_pos c18] at H
            have c18b0 := eq_true c18
            have c18b1 : decide (t191.size + 1 ≤ 9223372036854775807) = true := decide_eq_true c18
            try have c18b2 : (9223372036854775807 < t191.size + 1) = False := eq_false (Nat.not_lt.2 c18)
            by_cases c19 : t191.size + 9 ≤ 9223372036854775807
            · rw [if_pos c19] at H
              have c19b0 := eq_true c19
              have c19b1 : decide (t191.size + 9 ≤ 9223372036854775807) = true := decide_eq_true c19
              try have c19b2 : (9223372036854775807 < t191.size + 9) = False := eq_false (Nat.not_lt.2 c19)
              obtain ⟨y196, hy196⟩ : ∃ y_ : List ByteArray, y_ = (([(⟨#[48]⟩ : ByteArray) ++ t191, (⟨#[43]⟩ : ByteArray) ++ t191, (⟨#[45]⟩ : ByteArray) ++ t191, t191 ++ (⟨#[32]⟩ : ByteArray), t191 ++ (⟨#[97]⟩ : ByteArray), t191 ++ (⟨#[48, 48, 48, 48, 48, 48, 48, 48, 48]⟩ : ByteArray), (⟨#[]⟩ : ByteArray)] : List ByteArray)) := ⟨_, rfl⟩
              replace H : (remontoirlaw16_WordsNumbers.l0 kj5 y196 (y196.length : Int) 0) = some r := by first | (rw [hy196]; with_reducible exact H) | (have H2_ := (Option.bind_some _ _).symm.trans H; rw [hy196]; with_reducible exact H2_) | (have H2_ := (Option.bind_some _ _).symm.trans H; with_reducible exact H2_) | with_reducible exact H | (rw [hy196]; exact H) | exact H
              have Ny196 := Aside0.mk hy196
              clear hy196
              have H' := Aside0.mk H
              clear H
              go_wp2_with (first | ((with_reducible refine gate_dst (N := 74) rfl ?_); refine Kd.R_lit Kd.string _ 9 ?hg (N := 74) ?hd (xs := ([(⟨#[48]⟩ : ByteArray) ++ t191, (⟨#[43]⟩ : ByteArray) ++ t191, (⟨#[45]⟩ : ByteArray) ++ t191, t191 ++ (⟨#[32]⟩ : ByteArray), t191 ++ (⟨#[97]⟩ : ByteArray), t191 ++ (⟨#[48, 48, 48, 48, 48, 48, 48, 48, 48]⟩ : ByteArray), (⟨#[]⟩ : ByteArray)] : List ByteArray)) (inner := [.string ((⟨#[48]⟩ : ByteArray) ++ t191), .string ((⟨#[43]⟩ : ByteArray) ++ t191), .string ((⟨#[45]⟩ : ByteArray) ++ t191), .string (t191 ++ (⟨#[32]⟩ : ByteArray)), .string (t191 ++ (⟨#[97]⟩ : ByteArray)), .string (t191 ++ (⟨#[48, 48, 48, 48, 48, 48, 48, 48, 48]⟩ : ByteArray)), .string (⟨#[]⟩ : ByteArray)]) (ok := fun _ => True) (okp := fun _ => True) ?hr ?hp (fun _ hk => hk) trivial (Below.refl _ _) (Nat.le_refl _) (by simp) ?_; (case hd => rfl); (case hg => rfl); (case hr => first | (go_simp; done) | (go_simp; rfl)); (case hp => exact (Reps.one (show Kd.M Kd.string _ _ _ ((⟨#[48]⟩ : ByteArray) ++ t191) [.string ((⟨#[48]⟩ : ByteArray) ++ t191)] from rfl) (Reps.one (show Kd.M Kd.string _ _ _ ((⟨#[43]⟩ : ByteArray) ++ t191) [.string ((⟨#[43]⟩ : ByteArray) ++ t191)] from rfl) (Reps.one (show Kd.M Kd.string _ _ _ ((⟨#[45]⟩ : ByteArray) ++ t191) [.string ((⟨#[45]⟩ : ByteArray) ++ t191)] from rfl) (Reps.one (show Kd.M Kd.string _ _ _ (t191 ++ (⟨#[32]⟩ : ByteArray)) [.string (t191 ++ (⟨#[32]⟩ : ByteArray))] from rfl) (Reps.one (show Kd.M Kd.string _ _ _ (t191 ++ (⟨#[97]⟩ : ByteArray)) [.string (t191 ++ (⟨#[97]⟩ : ByteArray))] from rfl) (Reps.one (show Kd.M Kd.string _ _ _ (t191 ++ (⟨#[48, 48, 48, 48, 48, 48, 48, 48, 48]⟩ : ByteArray)) [.string (t191 ++ (⟨#[48, 48, 48, 48, 48, 48, 48, 48, 48]⟩ : ByteArray))] from rfl) (Reps.one (show Kd.M Kd.string _ _ _ (⟨#[]⟩ : ByteArray) [.string (⟨#[]⟩ : ByteArray)] from rfl) (Reps.none _ _))))))))); intro v197 w20 ho21 hb hg_ hnew_; clear hg_ hnew_; (first | rw [← Ny196.out] at ho21 | (simp only [Int.reduceToNat] at ho21; rw [← Ny196.out] at ho21)); have n0_ := Aside0.mk (Kd.R_lower ho21 (below_size (by repeat (first | (with_reducible first | exact HB.out | apply below_alloc | apply pw_below_drewN | apply below_drew1) | exact HB.out)))); have n1_ := Aside0.mk (below_step (by repeat (first | (with_reducible first | exact HB.out | apply below_alloc | apply pw_below_drewN | apply below_drew1) | exact HB.out)) hb); clear HB; have HO198 := n0_; have HB := n1_; clear n0_ n1_; clear hb ho21; obtain ⟨Ao22, co22, eo22⟩ := Kd.R_slice HO198.out; subst eo22))
              go_loopg [76] kj5 (fun kq v76 w' => ∃ (x76_2 : Int), v76 = .int .i64 x76_2 ∧ Aside0 (remontoirlaw16_WordsNumbers.l0 kq y196 (y196.length : Int) x76_2 = some r) ∧ Aside0 (kq ≤ kj5) ∧ Aside0 (Kd.R Kd.string 9 w' w.heap.size (fun _ => True) (.slice Ao22 y196.length co22) y196) ∧ Aside0 (Below w.heap.size w w'))
              case atStart => exact ⟨(0), (by first | rfl | (simp; done) | (simp [*]; done)), H', ⟨Nat.le_refl _⟩, ⟨by (with_reducible repeat (first | apply Kd.R_alloc | apply Kd.R_drewN | apply Kd.R_drew)); exact HO198.out⟩, ⟨by repeat (first | (with_reducible first | exact HB.out | apply below_alloc | apply pw_below_drewN | apply below_drew1) | exact HB.out)⟩⟩
              case round =>
                clear H'
                try clear c1
                try clear p2
                try clear c5
                try clear p6
                try clear c10
                try clear c10b0
                try clear c10b1
                try clear c10b2
                try clear c11
                try clear c12
                try clear c12b0
                try clear c12b1
                try clear c13
                try clear c14
                try clear c14b0
                try clear c14b1
                try clear c15
                try clear c16
                try clear c17
                try clear c17b0
                try clear c17b1
                try clear c17b2
                try clear c18
                try clear c18b0
                try clear c18b1
                try clear c18b2
                try clear c19
                try clear c19b0
                try clear c19b1
                try clear c19b2
                try clear p2
                try clear p6
                obtain ⟨x76_2, rfl, HA, HK2, HO_74, HB⟩ := hrel
                cases gk with
                | zero => exact absurd HA.out (by simp [remontoirlaw16_WordsNumbers.l0])
                | succ k2 =>
                  have H := HA.out
                  clear HA
                  simp only [remontoirlaw16_WordsNumbers.l0] at H
                  by_cases c23 : x76_2 < (y196.length : Int)
                  · rw [if_pos c23] at H
                    have c23b0 : decide (x76_2 < (y196.length : Int)) = true := decide_eq_true c23
                    clear c23
                    by_cases c24 : 0 ≤ x76_2
                    · rw [if_pos c24] at H
                      have c24b0 : decide (0 ≤ x76_2) = true := decide_eq_true c24
                      clear c24
                      by_cases c25 : x76_2 < (y196.length : Int)
                      · rw [if_pos c25] at H
                        have c25b0 : decide (x76_2 < (y196.length : Int)) = true := decide_eq_true c25
                        clear c25
                        replace H := Option.bind_eq_some_iff.mp H
                        obtain ⟨⟨t200, t201⟩, A260, H⟩ := H
                        replace H : (if t201 = true then (some false) else (if t200 = 0 then (remontoirlaw16_WordsNumbers.l0 k2 y196 (y196.length : Int) (wrap64 (x76_2 + 1))) else (some false))) = some r := H
                        have A26 := Aside0.mk A260
                        clear A260
                        by_cases c27 : t201 = true
                        · subst c27
                          have H1 : (some false) = some r := by rw [if_pos rfl] at H; exact H
                          clear H
                          have H := H1
                          clear H1
                          obtain rfl := Option.some.inj H
                          have p199 : 0 ≤ (x76_2 : Int) := of_decide_eq_true (by first | (with_reducible assumption) | assumption)
                          have q199 : x76_2 < (y196.length : Int) := of_decide_eq_true (by first | (with_reducible assumption) | assumption)
                          obtain ⟨ad199, e199, hx199_0⟩ := Kd.at_string (Kd.R_reads' HO_74.out).2.2 x76_2 p199 q199
                          cases e199
                          replace p199 := eq_true p199
                          replace q199 := eq_true q199
                          go_wp2_with (first | ((with_reducible refine gate_callee (f := 15) rfl ?_); refine goesL_ (some 82) rfl rfl Tryd.func15 (by kernel_rfl) rfl #[.string (rdOf ByteArray.empty y196 x76_2), .int .i64 4611686018427387904] rfl (by (try simp only [List.map_toArray, List.map_cons, List.map_nil]); first | done | rfl | (simp only [List.length_drop, List.length_take]; rfl)) ?_; (with_reducible refine (words_Number.calls k2 (rdOf ByteArray.empty y196 x76_2) 4611686018427387904 t200 true _ A26.out).mono ?_); rintro e w28 ⟨rfl, hb⟩; refine ⟨_, rfl, ?_⟩; have n0_ := Aside0.mk (Kd.R_below (by (with_reducible repeat (first | apply Kd.R_alloc | apply Kd.R_drewN | apply Kd.R_drew)); exact HO_74.out) hb); have n1_ := Aside0.mk (below_step (by repeat (first | (with_reducible first | exact HB.out | apply below_alloc | apply pw_below_drewN | apply below_drew1) | exact HB.out)) hb); clear HO_74; clear HB; have HO_74 := n0_; have HB := n1_; clear n0_ n1_; (try clear hb); (try clear hb2); (try clear hk); (try clear hi)))
                          go_ret
                          exact ⟨by first | rfl | (simp [errW_none, errW_some] <;> rfl) | (simp [*, errW_none, errW_some] <;> rfl), by repeat (first | (with_reducible first | exact HB.out | apply below_alloc | apply pw_below_drewN | apply below_drew1) | exact HB.out)⟩
                        · replace c27 := Bool.eq_false_iff.mpr c27
                          subst c27
                          have H1 : (if t200 = 0 then (remontoirlaw16_WordsNumbers.l0 k2 y196 (y196.length : Int) (wrap64 (x76_2 + 1))) else (some false)) = some r := by rw [if_neg (show ¬ (false = true) by decide)] at H; exact H
                          clear H
                          have H := H1
                          clear H1
                          by_cases c29 : t200 = 0
                          · rw [if_pos c29] at H
                            have c29b0 : (t200 == 0) = true := beq_iff_eq.mpr c29
                            have c29b1 : (t200 != 0) = false := bne_eq_false_iff_eq.mpr c29
                            clear c29
                            have H' := Aside0.mk H
                            clear H
                            have p199 : 0 ≤ (x76_2 : Int) := of_decide_eq_true (by first | (with_reducible assumption) | assumption)
                            have q199 : x76_2 < (y196.length : Int) := of_decide_eq_true (by first | (with_reducible assumption) | assumption)
                            obtain ⟨ad199, e199, hx199_0⟩ := Kd.at_string (Kd.R_reads' HO_74.out).2.2 x76_2 p199 q199
                            cases e199
                            replace p199 := eq_true p199
                            replace q199 := eq_true q199
                            go_wp2_with (first | ((with_reducible refine gate_callee (f := 15) rfl ?_); refine goesL_ (some 82) rfl rfl Tryd.func15 (by kernel_rfl) rfl #[.string (rdOf ByteArray.empty y196 x76_2), .int .i64 4611686018427387904] rfl (by (try simp only [List.map_toArray, List.map_cons, List.map_nil]); first | done | rfl | (simp only [List.length_drop, List.length_take]; rfl)) ?_; (with_reducible refine (words_Number.calls k2 (rdOf ByteArray.empty y196 x76_2) 4611686018427387904 t200 false _ A26.out).mono ?_); rintro e w30 ⟨rfl, hb⟩; refine ⟨_, rfl, ?_⟩; have n0_ := Aside0.mk (Kd.R_below (by (with_reducible repeat (first | apply Kd.R_alloc | apply Kd.R_drewN | apply Kd.R_drew)); exact HO_74.out) hb); have n1_ := Aside0.mk (below_step (by repeat (first | (with_reducible first | exact HB.out | apply below_alloc | apply pw_below_drewN | apply below_drew1) | exact HB.out)) hb); clear HO_74; clear HB; have HO_74 := n0_; have HB := n1_; clear n0_ n1_; (try clear hb); (try clear hb2); (try clear hk); (try clear hi)))
                            go_roundg k2
                            case measure => have := HJ5.out; have := HK2.out; omega
                            case rel => exact ⟨(wrap64 (x76_2 + 1)), (by first | rfl | (simp; done) | (simp [*]; done)), H', ⟨by have := HJ5.out; have := HK2.out; omega⟩, ⟨by (with_reducible repeat (first | apply Kd.R_alloc | apply Kd.R_drewN | apply Kd.R_drew)); exact HO_74.out⟩, ⟨by repeat (first | (with_reducible first | exact HB.out | apply below_alloc | apply pw_below_drewN | apply below_drew1) | exact HB.out)⟩⟩
                          · rw [if_neg c29] at H
                            have c29b0 : (t200 == 0) = false := beq_eq_false_iff_ne.mpr c29
                            have c29b1 : (t200 != 0) = true := bne_iff_ne.mpr c29
                            obtain rfl := Option.some.inj H
                            have p199 : 0 ≤ (x76_2 : Int) := of_decide_eq_true (by first | (with_reducible assumption) | assumption)
                            have q199 : x76_2 < (y196.length : Int) := of_decide_eq_true (by first | (with_reducible assumption) | assumption)
                            obtain ⟨ad199, e199, hx199_0⟩ := Kd.at_string (Kd.R_reads' HO_74.out).2.2 x76_2 p199 q199
                            cases e199
                            replace p199 := eq_true p199
                            replace q199 := eq_true q199
                            go_wp2_with (first | ((with_reducible refine gate_callee (f := 15) rfl ?_); refine goesL_ (some 82) rfl rfl Tryd.func15 (by kernel_rfl) rfl #[.string (rdOf ByteArray.empty y196 x76_2), .int .i64 4611686018427387904] rfl (by (try simp only [List.map_toArray, List.map_cons, List.map_nil]); first | done | rfl | (simp only [List.length_drop, List.length_take]; rfl)) ?_; (with_reducible refine (words_Number.calls k2 (rdOf ByteArray.empty y196 x76_2) 4611686018427387904 t200 false _ A26.out).mono ?_); rintro e w31 ⟨rfl, hb⟩; refine ⟨_, rfl, ?_⟩; have n0_ := Aside0.mk (Kd.R_below (by (with_reducible repeat (first | apply Kd.R_alloc | apply Kd.R_drewN | apply Kd.R_drew)); exact HO_74.out) hb); have n1_ := Aside0.mk (below_step (by repeat (first | (with_reducible first | exact HB.out | apply below_alloc | apply pw_below_drewN | apply below_drew1) | exact HB.out)) hb); clear HO_74; clear HB; have HO_74 := n0_; have HB := n1_; clear n0_ n1_; (try clear hb); (try clear hb2); (try clear hk); (try clear hi)))
                            go_ret
                            exact ⟨by first | rfl | (simp [errW_none, errW_some] <;> rfl) | (simp [*, errW_none, errW_some] <;> rfl), by repeat (first | (with_reducible first | exact HB.out | apply below_alloc | apply pw_below_drewN | apply below_drew1) | exact HB.out)⟩
                      · rw [if_neg c25] at H
                        exact absurd H (by simp)
                    · rw [if_neg c24] at H
                      exact absurd H (by simp)
                  · rw [if_neg c23] at H
                    have c23b0 : decide (x76_2 < (y196.length : Int)) = false := decide_eq_false c23
                    clear c23
                    replace H := Option.bind_eq_some_iff.mp H
                    obtain ⟨t202, A320, H⟩ := H
                    replace H : (some t202) = some r := H
                    have A32 := Aside0.mk A320
                    clear A320
                    obtain rfl := Option.some.inj H
                    go_wp2_with (first | ((with_reducible refine gate_callee (f := 8) rfl ?_); refine goesL_ (some 91) rfl rfl Tryd.func8 (by kernel_rfl) rfl #[] rfl (by (try simp only [List.map_toArray, List.map_cons, List.map_nil]); first | done | rfl | (simp only [List.length_drop, List.length_take]; rfl)) ?_; (with_reducible refine (remontoirlaw16_wakes.calls k2  t202 _ A32.out).mono ?_); rintro e w33 ⟨rfl, hb⟩; refine ⟨_, rfl, ?_⟩; have n0_ := Aside0.mk (Kd.R_below (by (with_reducible repeat (first | apply Kd.R_alloc | apply Kd.R_drewN | apply Kd.R_drew)); exact HO_74.out) hb); have n1_ := Aside0.mk (below_step (by repeat (first | (with_reducible first | exact HB.out | apply below_alloc | apply pw_below_drewN | apply below_drew1) | exact HB.out)) hb); clear HO_74; clear HB; have HO_74 := n0_; have HB := n1_; clear n0_ n1_; (try clear hb); (try clear hb2); (try clear hk); (try clear hi)))
                    go_ret
                    exact ⟨by first | rfl | (simp [errW_none, errW_some] <;> rfl) | (simp [*, errW_none, errW_some] <;> rfl), by repeat (first | (with_reducible first | exact HB.out | apply below_alloc | apply pw_below_drewN | apply below_drew1) | exact HB.out)⟩
            · rw [if_neg c19] at H
              exact absurd H (by simp)
          · rw [if_neg c18] at H
            exact absurd H (by simp)
        · rw [if_neg c17] at H
          exact absurd H (by simp)

/-- THE ONE PURE STATEMENT of remontoirlaw16_WordsNumbers: yours. -/
def remontoirlaw16_WordsNumbers.Pure : Prop := ∀ (a0 : Int) (a1 : Int), (Lit.int .u32 a0).wf = true → (Lit.int .i64 a1).wf = true → ∃ k, remontoirlaw16_WordsNumbers.f k a0 a1 = some true
theorem remontoirlaw16_WordsNumbers.walk (P : remontoirlaw16_WordsNumbers.Pure) (a0 : Int) (a1 : Int) (w : World) (w0 : (Lit.int .u32 a0).wf = true) (w1 : (Lit.int .i64 a1).wf = true) :
    Calls Tryd.prog 5 #[.int .u32 a0, .int .i64 a1] w fun e w' => e = .returned (.bool true) ∧ Below w.heap.size w w' := by
  obtain ⟨k, h⟩ := P a0 a1 w0 w1
  refine (remontoirlaw16_WordsNumbers.calls k a0 a1 true w h).mono ?_
  rintro e w' ⟨rfl, hd⟩
  exact ⟨rfl, hd⟩

end Go.Proofs.YthneholbmninjaaDoor.Q
