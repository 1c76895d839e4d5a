/- What Go functions compute, as plain Lean functions, and that the machine comes to just that: written by wip/tools/printx.py (my run of the printer, with contracts of mine beside it). -/
import Derived.Test.YtjkdibkgmfnkdaaDoorQx0
import Derived.Test.YtjkdibkgmfnkdaaDoorQx1
import Derived.Test.YtjkdibkgmfnkdaaDoorQx2
import Derived.Test.YtjkdibkgmfnkdaaDoorQx3
namespace Go.Proofs.YtjkdibkgmfnkdaaDoor.Q
open Go.Proofs.YtjkdibkgmfnkdaaDoor.Ext Go.Proofs.YtjkdibkgmfnkdaaDoor.B Go.RowKit Go.Proofs.YtjkdibkgmfnkdaaDoorW.PrintWords Go.Proofs.YtjkdibkgmfnkdaaDoorW.PrintLast Go.Proofs.YtjkdibkgmfnkdaaDoorW.PrintMore
attribute [local go_sem] max2_int min2_int max_two min_two max_three min_three max_four min_four   -- for this text's walks alone
set_option linter.unusedVariables false
set_option linter.unusedSimpArgs false

attribute [local go_sem high] eqA25

/-! ### remontoirlaw03_CycleErrors: function 5 -/
mutual
def remontoirlaw03_CycleErrors.j0 : Nat → Int → Int → Int → Int → Bool → Int → Int → Option (Bool)
  | 0, _, _, _, _, _, _, _ => none
  | k + 1, x5, x7, x8, x9, x61, x184000, x184001 => if x61 = true then (some false) else (if x9 = 0 then (remontoirlaw03_CycleErrors.j1 k x5 x7 x8 x9 (decide (x8 > 0)) x184000 x184001) else (remontoirlaw03_CycleErrors.j1 k x5 x7 x8 x9 false x184000 x184001))
def remontoirlaw03_CycleErrors.j1 : Nat → Int → Int → Int → Int → Bool → Int → Int → Option (Bool)
  | 0, _, _, _, _, _, _, _ => none
  | k + 1, x5, x7, x8, x9, x67, x184000, x184001 => if x67 = true then (if x7 = 0 then (if (x184000 == x5 && (x184001 == x8)) = true then ((remontoirlaw03_wakes.f k).bind fun t195 => (some t195)) else (some false)) else (some false)) else (if (x184000 == 0 && (x184001 == 0)) = true then (if x9 = 0 then (if x7 = 6 then ((remontoirlaw03_wakes.f k).bind fun t196 => (some t196)) else (some false)) else (if x7 = x9 then ((remontoirlaw03_wakes.f k).bind fun t197 => (some t197)) else (some false))) else (some false))
end
def remontoirlaw03_CycleErrors.f (k : Nat) (a0 : Int) (a1 : ByteArray) : Option (Bool) := if (a1.size : Int) > 200 then ((remontoirlaw03_wakes.f k).bind fun t178 => (some t178)) else ((remontoirref02_Digits.f k (IntKind.u64.wrap (wrap64 (1 + (Int.tmod (wrap64 (a0)) 1000000))))).bind fun t179 => (if 1 + t179.size ≤ 9223372036854775807 then (if ((⟨#[82]⟩ : ByteArray) ++ t179).size + 1 ≤ 9223372036854775807 then (if (((⟨#[82]⟩ : ByteArray) ++ t179) ++ (⟨#[47]⟩ : ByteArray)).size + a1.size ≤ 9223372036854775807 then ((cycle_Parse.f k ((((⟨#[82]⟩ : ByteArray) ++ t179) ++ (⟨#[47]⟩ : ByteArray)) ++ a1)).bind fun bt180 => ((span_Parse.f a1).bind fun bt184 => (if 2 + a1.size ≤ 9223372036854775807 then ((cycle_Parse.f k ((⟨#[82, 47]⟩ : ByteArray) ++ a1)).bind fun bt186 => ((remontoirref02_Digits.f k (IntKind.u64.wrap (wrap64 (1000000 + (wrap64 (1 + (Int.tmod (wrap64 (a0)) 1000000))))))).bind fun t190 => (if 1 + t190.size ≤ 9223372036854775807 then (if ((⟨#[82]⟩ : ByteArray) ++ t190).size + 1 ≤ 9223372036854775807 then (if (((⟨#[82]⟩ : ByteArray) ++ t190) ++ (⟨#[47]⟩ : ByteArray)).size + a1.size ≤ 9223372036854775807 then ((cycle_Parse.f k ((((⟨#[82]⟩ : ByteArray) ++ t190) ++ (⟨#[47]⟩ : ByteArray)) ++ a1)).bind fun bt191 => (if bt186.2.2 = 5 then (remontoirlaw03_CycleErrors.j0 k (wrap64 (1 + (Int.tmod (wrap64 (a0)) 1000000))) bt180.2.2 bt184.1 bt184.2 (bt191.2.2 != 3) bt180.1 bt180.2.1) else (remontoirlaw03_CycleErrors.j0 k (wrap64 (1 + (Int.tmod (wrap64 (a0)) 1000000))) bt180.2.2 bt184.1 bt184.2 true bt180.1 bt180.2.1))) else (none)) else (none)) else (none)))) else (none)))) else (none)) else (none)) else (none)))
theorem remontoirlaw03_CycleErrors.mono_l : ∀ k, (∀ y0 y1 y2 y3 y4 y5 y6, LeO (remontoirlaw03_CycleErrors.j0 k y0 y1 y2 y3 y4 y5 y6) (remontoirlaw03_CycleErrors.j0 (k + 1) y0 y1 y2 y3 y4 y5 y6)) ∧ (∀ y0 y1 y2 y3 y4 y5 y6, LeO (remontoirlaw03_CycleErrors.j1 k y0 y1 y2 y3 y4 y5 y6) (remontoirlaw03_CycleErrors.j1 (k + 1) y0 y1 y2 y3 y4 y5 y6))
  | 0 => ⟨fun _ _ _ _ _ _ _ r h => by simp [remontoirlaw03_CycleErrors.j0] at h, fun _ _ _ _ _ _ _ r h => by simp [remontoirlaw03_CycleErrors.j1] at h⟩
  | k + 1 => by
    obtain ⟨ih0, ih1⟩ := remontoirlaw03_CycleErrors.mono_l k
    refine ⟨?_, ?_⟩
    · intro y0 y1 y2 y3 y4 y5 y6
      unfold remontoirlaw03_CycleErrors.j0
      repeat' first
      | (with_reducible exact ih0 _ _ _ _ _ _ _)
      | (with_reducible exact ih1 _ _ _ _ _ _ _)
      | (with_reducible exact cycle_Parse.mono _ _)
      | (with_reducible exact remontoirlaw03_wakes.mono _)
      | (with_reducible exact remontoirref02_Digits.mono _ _)
      | (with_reducible exact LeO.refl _)
      | (with_reducible exact LeO.none _)
      | (with_reducible refine LeO.ite ?_ ?_)
      | (with_reducible refine LeO.bind ?_ (fun _ => ?_))
      | exact ih0 _ _ _ _ _ _ _
      | exact ih1 _ _ _ _ _ _ _
      | exact cycle_Parse.mono _ _
      | exact remontoirlaw03_wakes.mono _
      | exact remontoirref02_Digits.mono _ _
      | exact LeO.none _
      | refine LeO.ite ?_ ?_
      | refine LeO.bind ?_ (fun _ => ?_)
    · intro y0 y1 y2 y3 y4 y5 y6
      unfold remontoirlaw03_CycleErrors.j1
      repeat' first
      | (with_reducible exact ih0 _ _ _ _ _ _ _)
      | (with_reducible exact ih1 _ _ _ _ _ _ _)
      | (with_reducible exact cycle_Parse.mono _ _)
      | (with_reducible exact remontoirlaw03_wakes.mono _)
      | (with_reducible exact remontoirref02_Digits.mono _ _)
      | (with_reducible exact LeO.refl _)
      | (with_reducible exact LeO.none _)
      | (with_reducible refine LeO.ite ?_ ?_)
      | (with_reducible refine LeO.bind ?_ (fun _ => ?_))
      | exact ih0 _ _ _ _ _ _ _
      | exact ih1 _ _ _ _ _ _ _
      | exact cycle_Parse.mono _ _
      | exact remontoirlaw03_wakes.mono _
      | exact remontoirref02_Digits.mono _ _
      | exact LeO.none _
      | refine LeO.ite ?_ ?_
      | refine LeO.bind ?_ (fun _ => ?_)
theorem remontoirlaw03_CycleErrors.mono : ∀ a0 a1 k, LeO (remontoirlaw03_CycleErrors.f k a0 a1) (remontoirlaw03_CycleErrors.f (k + 1) a0 a1) := by
  intro a0 a1 k
  obtain ⟨ih0, ih1⟩ := remontoirlaw03_CycleErrors.mono_l k
  unfold remontoirlaw03_CycleErrors.f
  repeat' first
      | (with_reducible exact ih0 _ _ _ _ _ _ _)
      | (with_reducible exact ih1 _ _ _ _ _ _ _)
      | (with_reducible exact cycle_Parse.mono _ _)
      | (with_reducible exact remontoirlaw03_wakes.mono _)
      | (with_reducible exact remontoirref02_Digits.mono _ _)
      | (with_reducible exact LeO.refl _)
      | (with_reducible exact LeO.none _)
      | (with_reducible refine LeO.ite ?_ ?_)
      | (with_reducible refine LeO.bind ?_ (fun _ => ?_))
      | exact ih0 _ _ _ _ _ _ _
      | exact ih1 _ _ _ _ _ _ _
      | exact cycle_Parse.mono _ _
      | exact remontoirlaw03_wakes.mono _
      | exact remontoirref02_Digits.mono _ _
      | exact LeO.none _
      | refine LeO.ite ?_ ?_
      | refine LeO.bind ?_ (fun _ => ?_)
set_option maxHeartbeats 8000000 in
set_option maxRecDepth 100000 in
theorem remontoirlaw03_CycleErrors.calls (k : Nat) (a0 : Int) (a1 : ByteArray) (r : Bool) (w : World) (h : remontoirlaw03_CycleErrors.f k a0 a1 = some r) :
    Calls Tryd.prog 5 #[.int .u32 a0, .string a1] w fun e w' => e = .returned (.bool r) ∧ Below w.heap.size w w' := by
  have hu25 := Tryd.underlying25
  have HB := Aside0.mk (Below.refl w.heap.size w)
  have H : (if (a1.size : Int) > 200 then ((remontoirlaw03_wakes.f k).bind fun t178 => (some t178)) else ((remontoirref02_Digits.f k (IntKind.u64.wrap (wrap64 (1 + (Int.tmod (wrap64 (a0)) 1000000))))).bind fun t179 => (if 1 + t179.size ≤ 9223372036854775807 then (if ((⟨#[82]⟩ : ByteArray) ++ t179).size + 1 ≤ 9223372036854775807 then (if (((⟨#[82]⟩ : ByteArray) ++ t179) ++ (⟨#[47]⟩ : ByteArray)).size + a1.size ≤ 9223372036854775807 then ((cycle_Parse.f k ((((⟨#[82]⟩ : ByteArray) ++ t179) ++ (⟨#[47]⟩ : ByteArray)) ++ a1)).bind fun bt180 => ((span_Parse.f a1).bind fun bt184 => (if 2 + a1.size ≤ 9223372036854775807 then ((cycle_Parse.f k ((⟨#[82, 47]⟩ : ByteArray) ++ a1)).bind fun bt186 => ((remontoirref02_Digits.f k (IntKind.u64.wrap (wrap64 (1000000 + (wrap64 (1 + (Int.tmod (wrap64 (a0)) 1000000))))))).bind fun t190 => (if 1 + t190.size ≤ 9223372036854775807 then (if ((⟨#[82]⟩ : ByteArray) ++ t190).size + 1 ≤ 9223372036854775807 then (if (((⟨#[82]⟩ : ByteArray) ++ t190) ++ (⟨#[47]⟩ : ByteArray)).size + a1.size ≤ 9223372036854775807 then ((cycle_Parse.f k ((((⟨#[82]⟩ : ByteArray) ++ t190) ++ (⟨#[47]⟩ : ByteArray)) ++ a1)).bind fun bt191 => (if bt186.2.2 = 5 then (remontoirlaw03_CycleErrors.j0 k (wrap64 (1 + (Int.tmod (wrap64 (a0)) 1000000))) bt180.2.2 bt184.1 bt184.2 (bt191.2.2 != 3) bt180.1 bt180.2.1) else (remontoirlaw03_CycleErrors.j0 k (wrap64 (1 + (Int.tmod (wrap64 (a0)) 1000000))) bt180.2.2 bt184.1 bt184.2 true bt180.1 bt180.2.1))) else (none)) else (none)) else (none)))) else (none)))) else (none)) else (none)) else (none)))) = some r := h
  clear h
  by_cases c3 : (a1.size : Int) > 200
  · rw [if_pos c3] at H
    have c3b0 : decide (200 < (a1.size : Int)) = true := decide_eq_true c3
    have c3b1 : decide (200 < a1.size) = true := decide_eq_true (by omega)
    clear c3
    replace H := Option.bind_eq_some_iff.mp H
    obtain ⟨t178, A40, H⟩ := H
    replace H : (some t178) = some r := H
    have A4 := Aside0.mk A40
    clear A40
    obtain rfl := Option.some.inj H
    go_enter Tryd.func5, Tryd.ntmps5
    go_wp2_with (first | ((with_reducible refine gate_callee (f := 8) rfl ?_); refine goesL_ (some 17) rfl rfl Tryd.func8 (by kernel_rfl) rfl #[] rfl (by (try simp only [List.map_toArray, List.map_cons, List.map_nil]); first | done | rfl | (simp only [List.length_drop, List.length_take]; rfl)) ?_; (with_reducible refine (remontoirlaw03_wakes.calls k  t178 _ A4.out).mono ?_); rintro e w5 ⟨rfl, hb⟩; refine ⟨_, rfl, ?_⟩; have n0_ := Aside0.mk (below_step (by repeat (first | (with_reducible first | exact HB.out | apply below_alloc | apply pw_below_drewN | apply below_drew1) | exact HB.out)) hb); clear HB; have HB := n0_; clear n0_; (try clear hb); (try clear hb2); (try clear hk); (try clear hi)))
    go_ret
    exact ⟨by first | rfl | (simp [errW_none, errW_some] <;> rfl) | (simp [*, errW_none, errW_some] <;> rfl), by repeat (first | (with_reducible first | exact HB.out | apply below_alloc | apply pw_below_drewN | apply below_drew1) | exact HB.out)⟩
  · rw [if_neg c3] at H
    have c3b0 : decide (200 < (a1.size : Int)) = false := decide_eq_false c3
    have c3b1 : decide (200 < a1.size) = false := decide_eq_false (by omega)
    clear c3
    replace H := Option.bind_eq_some_iff.mp H
    obtain ⟨t179, A60, H⟩ := H
    replace H : (if 1 + t179.size ≤ 9223372036854775807 then (if ((⟨#[82]⟩ : ByteArray) ++ t179).size + 1 ≤ 9223372036854775807 then (if (((⟨#[82]⟩ : ByteArray) ++ t179) ++ (⟨#[47]⟩ : ByteArray)).size + a1.size ≤ 9223372036854775807 then ((cycle_Parse.f k ((((⟨#[82]⟩ : ByteArray) ++ t179) ++ (⟨#[47]⟩ : ByteArray)) ++ a1)).bind fun bt180 => ((span_Parse.f a1).bind fun bt184 => (if 2 + a1.size ≤ 9223372036854775807 then ((cycle_Parse.f k ((⟨#[82, 47]⟩ : ByteArray) ++ a1)).bind fun bt186 => ((remontoirref02_Digits.f k (IntKind.u64.wrap (wrap64 (1000000 + (wrap64 (1 + (Int.tmod (wrap64 (a0)) 1000000))))))).bind fun t190 => (if 1 + t190.size ≤ 9223372036854775807 then (if ((⟨#[82]⟩ : ByteArray) ++ t190).size + 1 ≤ 9223372036854775807 then (if (((⟨#[82]⟩ : ByteArray) ++ t190) ++ (⟨#[47]⟩ : ByteArray)).size + a1.size ≤ 9223372036854775807 then ((cycle_Parse.f k ((((⟨#[82]⟩ : ByteArray) ++ t190) ++ (⟨#[47]⟩ : ByteArray)) ++ a1)).bind fun bt191 => (if bt186.2.2 = 5 then (remontoirlaw03_CycleErrors.j0 k (wrap64 (1 + (Int.tmod (wrap64 (a0)) 1000000))) bt180.2.2 bt184.1 bt184.2 (bt191.2.2 != 3) bt180.1 bt180.2.1) else (remontoirlaw03_CycleErrors.j0 k (wrap64 (1 + (Int.tmod (wrap64 (a0)) 1000000))) bt180.2.2 bt184.1 bt184.2 true bt180.1 bt180.2.1))) else (none)) else (none)) else (none)))) else (none)))) else (none)) else (none)) else (none)) = some r := H
    have A6 := Aside0.mk A60
    clear A60
    by_cases c7 : 1 + t179.size ≤ 9223372036854775807
    · rw [if_pos c7] at H
      have c7b0 := eq_true c7
      have c7b1 : decide (1 + t179.size ≤ 9223372036854775807) = true := decide_eq_true c7
      try have c7b2 : (9223372036854775807 < 1 + t179.size) = False := eq_false (Nat.not_lt.2 c7)
      by_cases c8 : ((⟨#[82]⟩ : ByteArray) ++ t179).size + 1 ≤ 9223372036854775807
      · rw [if_pos c8] at H
        have c8b0 := eq_true c8
        have c8b1 : decide (((⟨#[82]⟩ : ByteArray) ++ t179).size + 1 ≤ 9223372036854775807) = true := decide_eq_true c8
        have c8z := c8
        try simp only [ByteArray.size_append, szlit, List.size_toArray, List.length_cons, List.length_nil, Nat.zero_add, Nat.reduceAdd] at c8z
        try have c8b2 : (9223372036854775807 < ((⟨#[82]⟩ : ByteArray) ++ t179).size + 1) = False := eq_false (Nat.not_lt.2 c8)
        by_cases c9 : (((⟨#[82]⟩ : ByteArray) ++ t179) ++ (⟨#[47]⟩ : ByteArray)).size + a1.size ≤ 9223372036854775807
        · rw [if_pos c9] at H
          have c9b0 := eq_true c9
          have c9b1 : decide ((((⟨#[82]⟩ : ByteArray) ++ t179) ++ (⟨#[47]⟩ : ByteArray)).size + a1.size ≤ 9223372036854775807) = true := decide_eq_true c9
          have c9z := c9
          try simp only [ByteArray.size_append, szlit, List.size_toArray, List.length_cons, List.length_nil, Nat.zero_add, Nat.reduceAdd] at c9z
          try have c9b2 : (9223372036854775807 < (((⟨#[82]⟩ : ByteArray) ++ t179) ++ (⟨#[47]⟩ : ByteArray)).size + a1.size) = False := eq_false (Nat.not_lt.2 c9)
          replace H := Option.bind_eq_some_iff.mp H
          obtain ⟨⟨t180, t181, t182⟩, A100, H⟩ := H
          replace H : ((span_Parse.f a1).bind fun bt184 => (if 2 + a1.size ≤ 9223372036854775807 then ((cycle_Parse.f k ((⟨#[82, 47]⟩ : ByteArray) ++ a1)).bind fun bt186 => ((remontoirref02_Digits.f k (IntKind.u64.wrap (wrap64 (1000000 + (wrap64 (1 + (Int.tmod (wrap64 (a0)) 1000000))))))).bind fun t190 => (if 1 + t190.size ≤ 9223372036854775807 then (if ((⟨#[82]⟩ : ByteArray) ++ t190).size + 1 ≤ 9223372036854775807 then (if (((⟨#[82]⟩ : ByteArray) ++ t190) ++ (⟨#[47]⟩ : ByteArray)).size + a1.size ≤ 9223372036854775807 then ((cycle_Parse.f k ((((⟨#[82]⟩ : ByteArray) ++ t190) ++ (⟨#[47]⟩ : ByteArray)) ++ a1)).bind fun bt191 => (if bt186.2.2 = 5 then (remontoirlaw03_CycleErrors.j0 k (wrap64 (1 + (Int.tmod (wrap64 (a0)) 1000000))) t182 bt184.1 bt184.2 (bt191.2.2 != 3) t180 t181) else (remontoirlaw03_CycleErrors.j0 k (wrap64 (1 + (Int.tmod (wrap64 (a0)) 1000000))) t182 bt184.1 bt184.2 true t180 t181))) else (none)) else (none)) else (none)))) else (none))) = some r := H
          have A10 := Aside0.mk A100
          clear A100
          replace H := Option.bind_eq_some_iff.mp H
          obtain ⟨⟨t184, t185⟩, A110, H⟩ := H
          replace H : (if 2 + a1.size ≤ 9223372036854775807 then ((cycle_Parse.f k ((⟨#[82, 47]⟩ : ByteArray) ++ a1)).bind fun bt186 => ((remontoirref02_Digits.f k (IntKind.u64.wrap (wrap64 (1000000 + (wrap64 (1 + (Int.tmod (wrap64 (a0)) 1000000))))))).bind fun t190 => (if 1 + t190.size ≤ 9223372036854775807 then (if ((⟨#[82]⟩ : ByteArray) ++ t190).size + 1 ≤ 9223372036854775807 then (if (((⟨#[82]⟩ : ByteArray) ++ t190) ++ (⟨#[47]⟩ : ByteArray)).size + a1.size ≤ 9223372036854775807 then ((cycle_Parse.f k ((((⟨#[82]⟩ : ByteArray) ++ t190) ++ (⟨#[47]⟩ : ByteArray)) ++ a1)).bind fun bt191 => (if bt186.2.2 = 5 then (remontoirlaw03_CycleErrors.j0 k (wrap64 (1 + (Int.tmod (wrap64 (a0)) 1000000))) t182 t184 t185 (bt191.2.2 != 3) t180 t181) else (remontoirlaw03_CycleErrors.j0 k (wrap64 (1 + (Int.tmod (wrap64 (a0)) 1000000))) t182 t184 t185 true t180 t181))) else (none)) else (none)) else (none)))) else (none)) = some r := H
          have A11 := Aside0.mk A110
          clear A110
          by_cases c12 : 2 + a1.size ≤ 9223372036854775807
          · rw [if_pos c12] at H
            have c12b0 := eq_true c12
            have c12b1 : decide (2 + a1.size ≤ 9223372036854775807) = true := decide_eq_true c12
            try have c12b2 : (9223372036854775807 < 2 + a1.size) = False := eq_false (Nat.not_lt.2 c12)
            replace H := Option.bind_eq_some_iff.mp H
            obtain ⟨⟨t186, t187, t188⟩, A130, H⟩ := H
            replace H : ((remontoirref02_Digits.f k (IntKind.u64.wrap (wrap64 (1000000 + (wrap64 (1 + (Int.tmod (wrap64 (a0)) 1000000))))))).bind fun t190 => (if 1 + t190.size ≤ 9223372036854775807 then (if ((⟨#[82]⟩ : ByteArray) ++ t190).size + 1 ≤ 9223372036854775807 then (if (((⟨#[82]⟩ : ByteArray) ++ t190) ++ (⟨#[47]⟩ : ByteArray)).size + a1.size ≤ 9223372036854775807 then ((cycle_Parse.f k ((((⟨#[82]⟩ : ByteArray) ++ t190) ++ (⟨#[47]⟩ : ByteArray)) ++ a1)).bind fun bt191 => (if t188 = 5 then (remontoirlaw03_CycleErrors.j0 k (wrap64 (1 + (Int.tmod (wrap64 (a0)) 1000000))) t182 t184 t185 (bt191.2.2 != 3) t180 t181) else (remontoirlaw03_CycleErrors.j0 k (wrap64 (1 + (Int.tmod (wrap64 (a0)) 1000000))) t182 t184 t185 true t180 t181))) else (none)) else (none)) else (none))) = some r := H
            have A13 := Aside0.mk A130
            clear A130
            replace H := Option.bind_eq_some_iff.mp H
            obtain ⟨t190, A140, H⟩ := H
            replace H : (if 1 + t190.size ≤ 9223372036854775807 then (if ((⟨#[82]⟩ : ByteArray) ++ t190).size + 1 ≤ 9223372036854775807 then (if (((⟨#[82]⟩ : ByteArray) ++ t190) ++ (⟨#[47]⟩ : ByteArray)).size + a1.size ≤ 9223372036854775807 then ((cycle_Parse.f k ((((⟨#[82]⟩ : ByteArray) ++ t190) ++ (⟨#[47]⟩ : ByteArray)) ++ a1)).bind fun bt191 => (if t188 = 5 then (remontoirlaw03_CycleErrors.j0 k (wrap64 (1 + (Int.tmod (wrap64 (a0)) 1000000))) t182 t184 t185 (bt191.2.2 != 3) t180 t181) else (remontoirlaw03_CycleErrors.j0 k (wrap64 (1 + (Int.tmod (wrap64 (a0)) 1000000))) t182 t184 t185 true t180 t181))) else (none)) else (none)) else (none)) = some r := H
            have A14 := Aside0.mk A140
            clear A140
            by_cases c15 : 1 + t190.size ≤ 9223372036854775807
            · rw [if_pos c15] at H
              have c15b0 := eq_true c15
              have c15b1 : decide (1 + t190.size ≤ 9223372036854775807) = true := decide_eq_true c15
              try have c15b2 : (9223372036854775807 < 1 + t190.size) = False := eq_false (Nat.not_lt.2 c15)
              by_cases c16 : ((⟨#[82]⟩ : ByteArray) ++ t190).size + 1 ≤ 9223372036854775807
              · rw [if_pos c16] at H
                have c16b0 := eq_true c16
                have c16b1 : decide (((⟨#[82]⟩ : ByteArray) ++ t190).size + 1 ≤ 9223372036854775807) = true := decide_eq_true c16
                have c16z := c16
                try simp only [ByteArray.size_append, szlit, List.size_toArray, List.length_cons, List.length_nil, Nat.zero_add, Nat.reduceAdd] at c16z
                try have c16b2 : (9223372036854775807 < ((⟨#[82]⟩ : ByteArray) ++ t190).size + 1) = False := eq_false (Nat.not_lt.2 c16)
                by_cases c17 : (((⟨#[82]⟩ : ByteArray) ++ t190) ++ (⟨#[47]⟩ : ByteArray)).size + a1.size ≤ 9223372036854775807
                · rw [if_pos c17] at H
                  have c17b0 := eq_true c17
                  have c17b1 : decide ((((⟨#[82]⟩ : ByteArray) ++ t190) ++ (⟨#[47]⟩ : ByteArray)).size + a1.size ≤ 9223372036854775807) = true := decide_eq_true c17
                  have c17z := c17
                  try simp only [ByteArray.size_append, szlit, List.size_toArray, List.length_cons, List.length_nil, Nat.zero_add, Nat.reduceAdd] at c17z
                  try have c17b2 : (9223372036854775807 < (((⟨#[82]⟩ : ByteArray) ++ t190) ++ (⟨#[47]⟩ : ByteArray)).size + a1.size) = False := eq_false (Nat.not_lt.2 c17)
                  replace H := Option.bind_eq_some_iff.mp H
                  obtain ⟨⟨t191, t192, t193⟩, A180, H⟩ := H
                  replace H : (if t188 = 5 then (remontoirlaw03_CycleErrors.j0 k (wrap64 (1 + (Int.tmod (wrap64 (a0)) 1000000))) t182 t184 t185 (t193 != 3) t180 t181) else (remontoirlaw03_CycleErrors.j0 k (wrap64 (1 + (Int.tmod (wrap64 (a0)) 1000000))) t182 t184 t185 true t180 t181)) = some r := H
                  have A18 := Aside0.mk A180
                  clear A180
                  have HC19 := Aside0.mk H
                  clear H
                  go_enter Tryd.func5, Tryd.ntmps5
                  go_upto_region 8 with (first | ((with_reducible refine gate_callee (f := 13) rfl ?_); refine goesL_ (some 25) rfl rfl Tryd.func13 (by kernel_rfl) rfl #[.int .u64 (IntKind.u64.wrap (wrap64 (1 + (Int.tmod (wrap64 (a0)) 1000000))))] rfl (by (try simp only [List.map_toArray, List.map_cons, List.map_nil]); first | done | rfl | (simp only [List.length_drop, List.length_take]; rfl)) ?_; (with_reducible refine (remontoirref02_Digits.calls k (IntKind.u64.wrap (wrap64 (1 + (Int.tmod (wrap64 (a0)) 1000000)))) t179 _ A6.out).mono ?_); rintro e w20 ⟨rfl, hb⟩; refine ⟨_, rfl, ?_⟩; have n0_ := Aside0.mk (below_step (by repeat (first | (with_reducible first | exact HB.out | apply below_alloc | apply pw_below_drewN | apply below_drew1) | exact HB.out)) hb); clear HB; have HB := n0_; clear n0_; (try clear hb); (try clear hb2); (try clear hk); (try clear hi)) | ((with_reducible refine gate_callee (f := 9) rfl ?_); refine goesL_ (some 30) rfl rfl Tryd.func9 (by kernel_rfl) rfl #[.string ((((⟨#[82]⟩ : ByteArray) ++ t179) ++ (⟨#[47]⟩ : ByteArray)) ++ a1)] rfl (by (try simp only [List.map_toArray, List.map_cons, List.map_nil]); first | done | rfl | (simp only [List.length_drop, List.length_take]; rfl)) ?_; (with_reducible refine (cycle_Parse.calls k ((((⟨#[82]⟩ : ByteArray) ++ t179) ++ (⟨#[47]⟩ : ByteArray)) ++ a1) t180 t181 t182 _ A10.out).mono ?_); rintro e w21 ⟨rfl, hb⟩; refine ⟨_, rfl, ?_⟩; have n0_ := Aside0.mk (below_step (by repeat (first | (with_reducible first | exact HB.out | apply below_alloc | apply pw_below_drewN | apply below_drew1) | exact HB.out)) hb); clear HB; have HB := n0_; clear n0_; (try clear hb); (try clear hb2); (try clear hk); (try clear hi)) | ((with_reducible refine gate_dst (N := 6) rfl ?_); refine box_event ?hg (N := 6) ?hd (cs := #[.int .i64 0, .int .u64 0]) (t := 25) ?hr ?_; (case hd => rfl); (case hg => rfl); (case hr => first | (go_simp; done) | (go_simp; rfl)); intro gb183 hg w22 hbox hb; have n0_ := Aside0.mk (below_step (by repeat (first | (with_reducible first | exact HB.out | apply below_alloc | apply pw_below_drewN | apply below_drew1) | exact HB.out)) hb); have n1_ := Aside0.mk (hbox); have n2_ := Aside0.mk ((by rw [hg]; exact (below_size (by repeat (first | (with_reducible first | exact HB.out | apply below_alloc | apply pw_below_drewN | apply below_drew1) | exact HB.out))) : w.heap.size ≤ gb183)); have n3_ := Aside0.mk ((by rw [hg]; exact (below_size (by repeat (first | (with_reducible first | exact HB.out | apply below_alloc | apply pw_below_drewN | apply below_drew1) | exact HB.out))) : w.heap.size ≤ gb183)); clear HB; have HB := n0_; have BK183 := n1_; have GW183 := n2_; have GE183 := n3_; clear n0_ n1_ n2_ n3_; clear hb hbox hg; have hcz23_0 : w22.cell? ⟨gb183, 0, none⟩ = some (.int .i64 0) := (blk_cell BK183.out 0).trans rfl; have hcz23_1 : w22.cell? ⟨gb183, 1, none⟩ = some (.int .u64 0) := (blk_cell BK183.out 1).trans rfl; have hfz23_0 := blk_frozen BK183.out 0; have hfz23_1 := blk_frozen BK183.out 1) | ((with_reducible refine gate_callee (f := 14) rfl ?_); refine goesL_ (some 35) rfl rfl Tryd.func14 (by kernel_rfl) rfl #[.string a1] rfl (by (try simp only [List.map_toArray, List.map_cons, List.map_nil]); first | done | rfl | (simp only [List.length_drop, List.length_take]; rfl)) ?_; (with_reducible refine (span_Parse.calls a1 t184 t185 _ A11.out).mono ?_); rintro e w24 ⟨rfl, hb⟩; refine ⟨_, rfl, ?_⟩; have n0_ := Aside0.mk (blk_below (g := gb183) (o := .cells #[.int .i64 t180, .int .u64 t181] 25 (0, 0)) (by (with_reducible repeat (first | refine blk_drewN ?_ _ | refine blk_drew ?_ | refine blk_alloc ?_ _)); refine blk_put (cs := #[.int .i64 t180, .int .u64 0]) ?_ 1 _ rfl; (with_reducible repeat (first | refine blk_drewN ?_ _ | refine blk_drew ?_ | refine blk_alloc ?_ _)); refine blk_put (cs := #[.int .i64 0, .int .u64 0]) ?_ 0 _ rfl; (with_reducible repeat (first | refine blk_drewN ?_ _ | refine blk_drew ?_ | refine blk_alloc ?_ _)); exact BK183.out) hb); have n1_ := Aside0.mk (below_step (by repeat (first | (with_reducible first | exact HB.out | apply below_alloc | apply pw_below_drewN | apply below_drew1 | refine below_set ?_ GE183.out) | exact HB.out)) hb); clear BK183; clear HB; have BK183 := n0_; have HB := n1_; clear n0_ n1_; (try clear hb); (try clear hb2); (try clear hk); (try clear hi)) | ((with_reducible refine gate_callee (f := 9) rfl ?_); refine goesL_ (some 41) rfl rfl Tryd.func9 (by kernel_rfl) rfl #[.string ((⟨#[82, 47]⟩ : ByteArray) ++ a1)] rfl (by (try simp only [List.map_toArray, List.map_cons, List.map_nil]); first | done | rfl | (simp only [List.length_drop, List.length_take]; rfl)) ?_; (with_reducible refine (cycle_Parse.calls k ((⟨#[82, 47]⟩ : ByteArray) ++ a1) t186 t187 t188 _ A13.out).mono ?_); rintro e w25 ⟨rfl, hb⟩; refine ⟨_, rfl, ?_⟩; have n0_ := Aside0.mk (blk_below (g := gb183) (o := .cells #[.int .i64 t180, .int .u64 t181] 25 (0, 0)) (by (with_reducible repeat (first | refine blk_drewN ?_ _ | refine blk_drew ?_ | refine blk_alloc ?_ _)); exact BK183.out) hb); have n1_ := Aside0.mk (below_step (by repeat (first | (with_reducible first | exact HB.out | apply below_alloc | apply pw_below_drewN | apply below_drew1 | refine below_set ?_ GE183.out) | exact HB.out)) hb); clear BK183; clear HB; have BK183 := n0_; have HB := n1_; clear n0_ n1_; (try clear hb); (try clear hb2); (try clear hk); (try clear hi)) | ((with_reducible refine gate_dst (N := 10) rfl ?_); refine box_event ?hg (N := 10) ?hd (cs := #[.int .i64 0, .int .u64 0]) (t := 25) ?hr ?_; (case hd => rfl); (case hg => rfl); (case hr => first | (go_simp; done) | (go_simp; rfl)); intro gb189 hg w26 hbox hb; have n0_ := Aside0.mk (blk_below (g := gb183) (o := .cells #[.int .i64 t180, .int .u64 t181] 25 (0, 0)) (by (with_reducible repeat (first | refine blk_drewN ?_ _ | refine blk_drew ?_ | refine blk_alloc ?_ _)); exact BK183.out) hb); have n1_ := Aside0.mk (below_step (by repeat (first | (with_reducible first | exact HB.out | apply below_alloc | apply pw_below_drewN | apply below_drew1 | refine below_set ?_ GE183.out) | exact HB.out)) hb); have n2_ := Aside0.mk (hbox); have n3_ := Aside0.mk ((by rw [hg]; exact (below_size (by repeat (first | (with_reducible first | exact HB.out | apply below_alloc | apply pw_below_drewN | apply below_drew1 | refine below_set ?_ GE183.out) | exact HB.out))) : w.heap.size ≤ gb189)); have n4_ := Aside0.mk ((by rw [hg]; exact (below_size (by repeat (first | (with_reducible first | exact HB.out | apply below_alloc | apply pw_below_drewN | apply below_drew1 | refine below_set ?_ GE183.out) | exact HB.out))) : w.heap.size ≤ gb189)); have n5_ := Aside0.mk ((by rw [hg]; exact Nat.ne_of_lt (blk_lt (g := gb183) (o := .cells #[.int .i64 t180, .int .u64 t181] 25 (0, 0)) (by (with_reducible repeat (first | refine blk_drewN ?_ _ | refine blk_drew ?_ | refine blk_alloc ?_ _)); exact BK183.out)) : gb183 ≠ gb189)); have n6_ := Aside0.mk ((by rw [hg]; exact Nat.ne_of_gt (blk_lt (g := gb183) (o := .cells #[.int .i64 t180, .int .u64 t181] 25 (0, 0)) (by (with_reducible repeat (first | refine blk_drewN ?_ _ | refine blk_drew ?_ | refine blk_alloc ?_ _)); exact BK183.out)) : gb189 ≠ gb183)); clear BK183; clear HB; have BK183 := n0_; have HB := n1_; have BK189 := n2_; have GW189 := n3_; have GE189 := n4_; have NB183_189 := n5_; have NB189_183 := n6_; clear n0_ n1_ n2_ n3_ n4_ n5_ n6_; clear hb hbox hg; have hnb27 := NB189_183.out; have hnc27 := NB183_189.out; have hcz28_0 : w26.cell? ⟨gb189, 0, none⟩ = some (.int .i64 0) := (blk_cell BK189.out 0).trans rfl; have hcz28_1 : w26.cell? ⟨gb189, 1, none⟩ = some (.int .u64 0) := (blk_cell BK189.out 1).trans rfl; have hfz28_0 := blk_frozen BK189.out 0; have hfz28_1 := blk_frozen BK189.out 1) | ((with_reducible refine gate_callee (f := 13) rfl ?_); refine goesL_ (some 48) rfl rfl Tryd.func13 (by kernel_rfl) rfl #[.int .u64 (IntKind.u64.wrap (wrap64 (1000000 + (wrap64 (1 + (Int.tmod (wrap64 (a0)) 1000000))))))] rfl (by (try simp only [List.map_toArray, List.map_cons, List.map_nil]); first | done | rfl | (simp only [List.length_drop, List.length_take]; rfl)) ?_; (with_reducible refine (remontoirref02_Digits.calls k (IntKind.u64.wrap (wrap64 (1000000 + (wrap64 (1 + (Int.tmod (wrap64 (a0)) 1000000)))))) t190 _ A14.out).mono ?_); rintro e w29 ⟨rfl, hb⟩; refine ⟨_, rfl, ?_⟩; have n0_ := Aside0.mk (blk_below (g := gb183) (o := .cells #[.int .i64 t180, .int .u64 t181] 25 (0, 0)) (by (with_reducible repeat (first | refine blk_drewN ?_ _ | refine blk_drew ?_ | refine blk_alloc ?_ _)); refine blk_far ?_ NB183_189.out _; (with_reducible repeat (first | refine blk_drewN ?_ _ | refine blk_drew ?_ | refine blk_alloc ?_ _)); refine blk_far ?_ NB183_189.out _; (with_reducible repeat (first | refine blk_drewN ?_ _ | refine blk_drew ?_ | refine blk_alloc ?_ _)); exact BK183.out) hb); have n1_ := Aside0.mk (blk_below (g := gb189) (o := .cells #[.int .i64 t186, .int .u64 t187] 25 (0, 0)) (by (with_reducible repeat (first | refine blk_drewN ?_ _ | refine blk_drew ?_ | refine blk_alloc ?_ _)); refine blk_put (cs := #[.int .i64 t186, .int .u64 0]) ?_ 1 _ rfl; (with_reducible repeat (first | refine blk_drewN ?_ _ | refine blk_drew ?_ | refine blk_alloc ?_ _)); refine blk_put (cs := #[.int .i64 0, .int .u64 0]) ?_ 0 _ rfl; (with_reducible repeat (first | refine blk_drewN ?_ _ | refine blk_drew ?_ | refine blk_alloc ?_ _)); exact BK189.out) hb); have n2_ := Aside0.mk (below_step (by repeat (first | (with_reducible first | exact HB.out | apply below_alloc | apply pw_below_drewN | apply below_drew1 | refine below_set ?_ GE183.out | refine below_set ?_ GE189.out) | exact HB.out)) hb); clear BK183; clear BK189; clear HB; have BK183 := n0_; have BK189 := n1_; have HB := n2_; clear n0_ n1_ n2_; (try clear hb); (try clear hb2); (try clear hk); (try clear hi)) | ((with_reducible refine gate_callee (f := 9) rfl ?_); refine goesL_ (some 53) rfl rfl Tryd.func9 (by kernel_rfl) rfl #[.string ((((⟨#[82]⟩ : ByteArray) ++ t190) ++ (⟨#[47]⟩ : ByteArray)) ++ a1)] rfl (by (try simp only [List.map_toArray, List.map_cons, List.map_nil]); first | done | rfl | (simp only [List.length_drop, List.length_take]; rfl)) ?_; (with_reducible refine (cycle_Parse.calls k ((((⟨#[82]⟩ : ByteArray) ++ t190) ++ (⟨#[47]⟩ : ByteArray)) ++ a1) t191 t192 t193 _ A18.out).mono ?_); rintro e w30 ⟨rfl, hb⟩; refine ⟨_, rfl, ?_⟩; have n0_ := Aside0.mk (blk_below (g := gb183) (o := .cells #[.int .i64 t180, .int .u64 t181] 25 (0, 0)) (by (with_reducible repeat (first | refine blk_drewN ?_ _ | refine blk_drew ?_ | refine blk_alloc ?_ _)); exact BK183.out) hb); have n1_ := Aside0.mk (blk_below (g := gb189) (o := .cells #[.int .i64 t186, .int .u64 t187] 25 (0, 0)) (by (with_reducible repeat (first | refine blk_drewN ?_ _ | refine blk_drew ?_ | refine blk_alloc ?_ _)); exact BK189.out) hb); have n2_ := Aside0.mk (below_step (by repeat (first | (with_reducible first | exact HB.out | apply below_alloc | apply pw_below_drewN | apply below_drew1 | refine below_set ?_ GE183.out | refine below_set ?_ GE189.out) | exact HB.out)) hb); clear BK183; clear BK189; clear HB; have BK183 := n0_; have BK189 := n1_; have HB := n2_; clear n0_ n1_ n2_; (try clear hb); (try clear hb2); (try clear hk); (try clear hi)) | ((with_reducible refine gate_dst (N := 12) rfl ?_); refine box_event ?hg (N := 12) ?hd (cs := #[.int .i64 0, .int .u64 0]) (t := 25) ?hr ?_; (case hd => rfl); (case hg => rfl); (case hr => first | (go_simp; done) | (go_simp; rfl)); intro gb194 hg w31 hbox hb; have n0_ := Aside0.mk (blk_below (g := gb183) (o := .cells #[.int .i64 t180, .int .u64 t181] 25 (0, 0)) (by (with_reducible repeat (first | refine blk_drewN ?_ _ | refine blk_drew ?_ | refine blk_alloc ?_ _)); exact BK183.out) hb); have n1_ := Aside0.mk (blk_below (g := gb189) (o := .cells #[.int .i64 t186, .int .u64 t187] 25 (0, 0)) (by (with_reducible repeat (first | refine blk_drewN ?_ _ | refine blk_drew ?_ | refine blk_alloc ?_ _)); exact BK189.out) hb); have n2_ := Aside0.mk (below_step (by repeat (first | (with_reducible first | exact HB.out | apply below_alloc | apply pw_below_drewN | apply below_drew1 | refine below_set ?_ GE183.out | refine below_set ?_ GE189.out) | exact HB.out)) hb); have n3_ := Aside0.mk (hbox); have n4_ := Aside0.mk ((by rw [hg]; exact (below_size (by repeat (first | (with_reducible first | exact HB.out | apply below_alloc | apply pw_below_drewN | apply below_drew1 | refine below_set ?_ GE183.out | refine below_set ?_ GE189.out) | exact HB.out))) : w.heap.size ≤ gb194)); have n5_ := Aside0.mk ((by rw [hg]; exact (below_size (by repeat (first | (with_reducible first | exact HB.out | apply below_alloc | apply pw_below_drewN | apply below_drew1 | refine below_set ?_ GE183.out | refine below_set ?_ GE189.out) | exact HB.out))) : w.heap.size ≤ gb194)); have n6_ := Aside0.mk ((by rw [hg]; exact Nat.ne_of_lt (blk_lt (g := gb183) (o := .cells #[.int .i64 t180, .int .u64 t181] 25 (0, 0)) (by (with_reducible repeat (first | refine blk_drewN ?_ _ | refine blk_drew ?_ | refine blk_alloc ?_ _)); exact BK183.out)) : gb183 ≠ gb194)); have n7_ := Aside0.mk ((by rw [hg]; exact Nat.ne_of_gt (blk_lt (g := gb183) (o := .cells #[.int .i64 t180, .int .u64 t181] 25 (0, 0)) (by (with_reducible repeat (first | refine blk_drewN ?_ _ | refine blk_drew ?_ | refine blk_alloc ?_ _)); exact BK183.out)) : gb194 ≠ gb183)); have n8_ := Aside0.mk ((by rw [hg]; exact Nat.ne_of_lt (blk_lt (g := gb189) (o := .cells #[.int .i64 t186, .int .u64 t187] 25 (0, 0)) (by (with_reducible repeat (first | refine blk_drewN ?_ _ | refine blk_drew ?_ | refine blk_alloc ?_ _)); exact BK189.out)) : gb189 ≠ gb194)); have n9_ := Aside0.mk ((by rw [hg]; exact Nat.ne_of_gt (blk_lt (g := gb189) (o := .cells #[.int .i64 t186, .int .u64 t187] 25 (0, 0)) (by (with_reducible repeat (first | refine blk_drewN ?_ _ | refine blk_drew ?_ | refine blk_alloc ?_ _)); exact BK189.out)) : gb194 ≠ gb189)); clear BK183; clear BK189; clear HB; have BK183 := n0_; have BK189 := n1_; have HB := n2_; have BK194 := n3_; have GW194 := n4_; have GE194 := n5_; have NB183_194 := n6_; have NB194_183 := n7_; have NB189_194 := n8_; have NB194_189 := n9_; clear n0_ n1_ n2_ n3_ n4_ n5_ n6_ n7_ n8_ n9_; clear hb hbox hg; have hnb32 := NB194_183.out; have hnc32 := NB183_194.out; have hnb33 := NB194_189.out; have hnc33 := NB189_194.out; have hcz34_0 : w31.cell? ⟨gb194, 0, none⟩ = some (.int .i64 0) := (blk_cell BK194.out 0).trans rfl; have hcz34_1 : w31.cell? ⟨gb194, 1, none⟩ = some (.int .u64 0) := (blk_cell BK194.out 1).trans rfl; have hfz34_0 := blk_frozen BK194.out 0; have hfz34_1 := blk_frozen BK194.out 1))
                  (try simp only [Act.put, List.setIfInBounds_toArray, List.set_cons_zero, List.set_cons_succ])
                  go_cut [61] (fun v61 wc => ∃ (kq : Nat) (x61_18 : Bool), v61 = .bool x61_18 ∧ Aside0 (remontoirlaw03_CycleErrors.j0 kq (wrap64 (1 + (Int.tmod (wrap64 (a0)) 1000000))) t182 t184 t185 x61_18 t180 t181 = some r) ∧ Aside0 (kq ≤ k) ∧ Aside0 (wc.heap[gb183]? = some (.cells #[.int .i64 t180, .int .u64 t181] 25 (0, 0))) ∧ Aside0 (wc.heap[gb189]? = some (.cells #[.int .i64 t186, .int .u64 t187] 25 (0, 0))) ∧ Aside0 (wc.heap[gb194]? = some (.cells #[.int .i64 t191, .int .u64 t192] 25 (0, 0))) ∧ Aside0 (Below w.heap.size w wc))
                  case first =>
                    have H := HC19.out
                    clear HC19
                    by_cases c35 : t188 = 5
                    · rw [if_pos c35] at H
                      have c35b0 : (t188 == 5) = true := beq_iff_eq.mpr c35
                      have c35b1 : (t188 != 5) = false := bne_eq_false_iff_eq.mpr c35
                      clear c35
                      (first | rw [c35b0] | (simp only [i64_w, i32_w]; rw [c35b0]) | skip)
                      have H' := Aside0.mk H
                      clear H
                      go_wp2
                      go_meet
                      case rel => exact ⟨_, ((t193 != 3)), (by first | rfl | (simp; done) | (simp [*]; done)), H', ⟨by first | omega | exact Nat.le_refl _⟩, ⟨by (with_reducible repeat (first | refine blk_drewN ?_ _ | refine blk_drew ?_ | refine blk_alloc ?_ _)); refine blk_far ?_ NB183_194.out _; (with_reducible repeat (first | refine blk_drewN ?_ _ | refine blk_drew ?_ | refine blk_alloc ?_ _)); refine blk_far ?_ NB183_194.out _; (with_reducible repeat (first | refine blk_drewN ?_ _ | refine blk_drew ?_ | refine blk_alloc ?_ _)); exact BK183.out⟩, ⟨by (with_reducible repeat (first | refine blk_drewN ?_ _ | refine blk_drew ?_ | refine blk_alloc ?_ _)); refine blk_far ?_ NB189_194.out _; (with_reducible repeat (first | refine blk_drewN ?_ _ | refine blk_drew ?_ | refine blk_alloc ?_ _)); refine blk_far ?_ NB189_194.out _; (with_reducible repeat (first | refine blk_drewN ?_ _ | refine blk_drew ?_ | refine blk_alloc ?_ _)); exact BK189.out⟩, ⟨by (with_reducible repeat (first | refine blk_drewN ?_ _ | refine blk_drew ?_ | refine blk_alloc ?_ _)); refine blk_put (cs := #[.int .i64 t191, .int .u64 0]) ?_ 1 _ rfl; (with_reducible repeat (first | refine blk_drewN ?_ _ | refine blk_drew ?_ | refine blk_alloc ?_ _)); refine blk_put (cs := #[.int .i64 0, .int .u64 0]) ?_ 0 _ rfl; (with_reducible repeat (first | refine blk_drewN ?_ _ | refine blk_drew ?_ | refine blk_alloc ?_ _)); exact BK194.out⟩, ⟨by repeat (first | (with_reducible first | exact HB.out | apply below_alloc | apply pw_below_drewN | apply below_drew1 | refine below_set ?_ GE183.out | refine below_set ?_ GE189.out | refine below_set ?_ GE194.out) | exact HB.out)⟩⟩
                    · rw [if_neg c35] at H
                      have c35b0 : (t188 == 5) = false := beq_eq_false_iff_ne.mpr c35
                      have c35b1 : (t188 != 5) = true := bne_iff_ne.mpr c35
                      (first | rw [c35b0] | (simp only [i64_w, i32_w]; rw [c35b0]) | skip)
                      have H' := Aside0.mk H
                      clear H
                      go_wp2
                      go_meet
                      case rel => exact ⟨_, (true), (by first | rfl | (simp; done) | (simp [*]; done)), H', ⟨by first | omega | exact Nat.le_refl _⟩, ⟨by (with_reducible repeat (first | refine blk_drewN ?_ _ | refine blk_drew ?_ | refine blk_alloc ?_ _)); refine blk_far ?_ NB183_194.out _; (with_reducible repeat (first | refine blk_drewN ?_ _ | refine blk_drew ?_ | refine blk_alloc ?_ _)); refine blk_far ?_ NB183_194.out _; (with_reducible repeat (first | refine blk_drewN ?_ _ | refine blk_drew ?_ | refine blk_alloc ?_ _)); exact BK183.out⟩, ⟨by (with_reducible repeat (first | refine blk_drewN ?_ _ | refine blk_drew ?_ | refine blk_alloc ?_ _)); refine blk_far ?_ NB189_194.out _; (with_reducible repeat (first | refine blk_drewN ?_ _ | refine blk_drew ?_ | refine blk_alloc ?_ _)); refine blk_far ?_ NB189_194.out _; (with_reducible repeat (first | refine blk_drewN ?_ _ | refine blk_drew ?_ | refine blk_alloc ?_ _)); exact BK189.out⟩, ⟨by (with_reducible repeat (first | refine blk_drewN ?_ _ | refine blk_drew ?_ | refine blk_alloc ?_ _)); refine blk_put (cs := #[.int .i64 t191, .int .u64 0]) ?_ 1 _ rfl; (with_reducible repeat (first | refine blk_drewN ?_ _ | refine blk_drew ?_ | refine blk_alloc ?_ _)); refine blk_put (cs := #[.int .i64 0, .int .u64 0]) ?_ 0 _ rfl; (with_reducible repeat (first | refine blk_drewN ?_ _ | refine blk_drew ?_ | refine blk_alloc ?_ _)); exact BK194.out⟩, ⟨by repeat (first | (with_reducible first | exact HB.out | apply below_alloc | apply pw_below_drewN | apply below_drew1 | refine below_set ?_ GE183.out | refine below_set ?_ GE189.out | refine below_set ?_ GE194.out) | exact HB.out)⟩⟩
                  case rest =>
                    clear HC19
                    try clear c1
                    try clear c2
                    try clear p2
                    try clear c3
                    try clear c3b0
                    try clear c3b1
                    try clear c5
                    try clear p6
                    try clear c7
                    try clear c7b0
                    try clear c7b1
                    try clear c7b2
                    try clear c8
                    try clear c8b0
                    try clear c8b1
                    try clear c8b2
                    try clear c9
                    try clear c9b0
                    try clear c9b1
                    try clear c9b2
                    try clear c12
                    try clear c12b0
                    try clear c12b1
                    try clear c12b2
                    try clear c13
                    try clear c14
                    try clear c15
                    try clear c15b0
                    try clear c15b1
                    try clear c15b2
                    try clear c16
                    try clear c16b0
                    try clear c16b1
                    try clear c16b2
                    try clear c17
                    try clear c17b0
                    try clear c17b1
                    try clear c17b2
                    try clear c27
                    try clear c32
                    try clear c33
                    try clear c35
                    try clear c35b0
                    try clear c35b1
                    try clear hcz23_0
                    try clear hcz23_1
                    try clear hcz28_0
                    try clear hcz28_1
                    try clear hcz34_0
                    try clear hcz34_1
                    try clear hfz23_0
                    try clear hfz23_1
                    try clear hfz28_0
                    try clear hfz28_1
                    try clear hfz34_0
                    try clear hfz34_1
                    obtain ⟨kq, x61_18, rfl, HA, HJ18, BK183, BK189, BK194, HB⟩ := hcut
                    cases kq with
                    | zero => exact absurd HA.out (by simp [remontoirlaw03_CycleErrors.j0])
                    | succ kj18 =>
                      have H := HA.out
                      clear HA
                      simp only [remontoirlaw03_CycleErrors.j0] at H
                      by_cases c36 : x61_18 = true
                      · subst c36
                        have H1 : (some false) = some r := by rw [if_pos rfl] at H; exact H
                        clear H
                        have H := H1
                        clear H1
                        obtain rfl := Option.some.inj H
                        go_wp2
                        go_ret
                        exact ⟨by first | rfl | (simp [errW_none, errW_some] <;> rfl) | (simp [*, errW_none, errW_some] <;> rfl), by repeat (first | (with_reducible first | exact HB.out | apply below_alloc | apply pw_below_drewN | apply below_drew1 | refine below_set ?_ GE183.out | refine below_set ?_ GE189.out | refine below_set ?_ GE194.out) | exact HB.out)⟩
                      · replace c36 := Bool.eq_false_iff.mpr c36
                        subst c36
                        have H1 : (if t185 = 0 then (remontoirlaw03_CycleErrors.j1 kj18 (wrap64 (1 + (Int.tmod (wrap64 (a0)) 1000000))) t182 t184 t185 (decide (t184 > 0)) t180 t181) else (remontoirlaw03_CycleErrors.j1 kj18 (wrap64 (1 + (Int.tmod (wrap64 (a0)) 1000000))) t182 t184 t185 false t180 t181)) = some r := by rw [if_neg (show ¬ (false = true) by decide)] at H; exact H
                        clear H
                        have H := H1
                        clear H1
                        have HC37 := Aside0.mk H
                        clear H
                        go_upto_region 10 with (fail)
                        go_cut [67] (fun v67 wc => ∃ (kq : Nat) (x67_36 : Bool), v67 = .bool x67_36 ∧ Aside0 (remontoirlaw03_CycleErrors.j1 kq (wrap64 (1 + (Int.tmod (wrap64 (a0)) 1000000))) t182 t184 t185 x67_36 t180 t181 = some r) ∧ Aside0 (kq ≤ kj18) ∧ Aside0 (wc.heap[gb183]? = some (.cells #[.int .i64 t180, .int .u64 t181] 25 (0, 0))) ∧ Aside0 (wc.heap[gb189]? = some (.cells #[.int .i64 t186, .int .u64 t187] 25 (0, 0))) ∧ Aside0 (wc.heap[gb194]? = some (.cells #[.int .i64 t191, .int .u64 t192] 25 (0, 0))) ∧ Aside0 (Below w.heap.size w wc))
                        case first =>
                          have H := HC37.out
                          clear HC37
                          by_cases c38 : t185 = 0
                          · rw [if_pos c38] at H
                            have c38b0 : (t185 == 0) = true := beq_iff_eq.mpr c38
                            have c38b1 : (t185 != 0) = false := bne_eq_false_iff_eq.mpr c38
                            clear c38
                            (first | rw [c38b0] | (simp only [i64_w, i32_w]; rw [c38b0]) | skip)
                            have H' := Aside0.mk H
                            clear H
                            go_wp2
                            go_meet
                            case rel => exact ⟨_, (decide (t184 > 0)), (by first | rfl | (simp; done) | (simp [*]; done)), H', ⟨by have := HJ18.out; first | omega | exact Nat.le_refl _⟩, ⟨by (with_reducible repeat (first | refine blk_drewN ?_ _ | refine blk_drew ?_ | refine blk_alloc ?_ _)); exact BK183.out⟩, ⟨by (with_reducible repeat (first | refine blk_drewN ?_ _ | refine blk_drew ?_ | refine blk_alloc ?_ _)); exact BK189.out⟩, ⟨by (with_reducible repeat (first | refine blk_drewN ?_ _ | refine blk_drew ?_ | refine blk_alloc ?_ _)); exact BK194.out⟩, ⟨by repeat (first | (with_reducible first | exact HB.out | apply below_alloc | apply pw_below_drewN | apply below_drew1 | refine below_set ?_ GE183.out | refine below_set ?_ GE189.out | refine below_set ?_ GE194.out) | exact HB.out)⟩⟩
                          · rw [if_neg c38] at H
                            have c38b0 : (t185 == 0) = false := beq_eq_false_iff_ne.mpr c38
                            have c38b1 : (t185 != 0) = true := bne_iff_ne.mpr c38
                            (first | rw [c38b0] | (simp only [i64_w, i32_w]; rw [c38b0]) | skip)
                            have H' := Aside0.mk H
                            clear H
                            go_wp2
                            go_meet
                            case rel => exact ⟨_, (false), (by first | rfl | (simp; done) | (simp [*]; done)), H', ⟨by have := HJ18.out; first | omega | exact Nat.le_refl _⟩, ⟨by (with_reducible repeat (first | refine blk_drewN ?_ _ | refine blk_drew ?_ | refine blk_alloc ?_ _)); exact BK183.out⟩, ⟨by (with_reducible repeat (first | refine blk_drewN ?_ _ | refine blk_drew ?_ | refine blk_alloc ?_ _)); exact BK189.out⟩, ⟨by (with_reducible repeat (first | refine blk_drewN ?_ _ | refine blk_drew ?_ | refine blk_alloc ?_ _)); exact BK194.out⟩, ⟨by repeat (first | (with_reducible first | exact HB.out | apply below_alloc | apply pw_below_drewN | apply below_drew1 | refine below_set ?_ GE183.out | refine below_set ?_ GE189.out | refine below_set ?_ GE194.out) | exact HB.out)⟩⟩
                        case rest =>
                          clear HC37
                          try clear c1
                          try clear c2
                          try clear p2
                          try clear c3
                          try clear c3b0
                          try clear c3b1
                          try clear c5
                          try clear p6
                          try clear c7
                          try clear c7b0
                          try clear c7b1
                          try clear c7b2
                          try clear c8
                          try clear c8b0
                          try clear c8b1
                          try clear c8b2
                          try clear c9
                          try clear c9b0
                          try clear c9b1
                          try clear c9b2
                          try clear c12
                          try clear c12b0
                          try clear c12b1
                          try clear c12b2
                          try clear c13
                          try clear c14
                          try clear c15
                          try clear c15b0
                          try clear c15b1
                          try clear c15b2
                          try clear c16
                          try clear c16b0
                          try clear c16b1
                          try clear c16b2
                          try clear c17
                          try clear c17b0
                          try clear c17b1
                          try clear c17b2
                          try clear c27
                          try clear c32
                          try clear c33
                          try clear c35
                          try clear c35b0
                          try clear c35b1
                          try clear c36
                          try clear c38
                          try clear c38b0
                          try clear c38b1
                          try clear hcz23_0
                          try clear hcz23_1
                          try clear hcz28_0
                          try clear hcz28_1
                          try clear hcz34_0
                          try clear hcz34_1
                          try clear hfz23_0
                          try clear hfz23_1
                          try clear hfz28_0
                          try clear hfz28_1
                          try clear hfz34_0
                          try clear hfz34_1
                          try clear p2
                          try clear p6
                          obtain ⟨kq, x67_36, rfl, HA, HJ36, BK183, BK189, BK194, HB⟩ := hcut
                          cases kq with
                          | zero => exact absurd HA.out (by simp [remontoirlaw03_CycleErrors.j1])
                          | succ kj36 =>
                            have H := HA.out
                            clear HA
                            simp only [remontoirlaw03_CycleErrors.j1] at H
                            by_cases c39 : x67_36 = true
                            · subst c39
                              have H1 : (if t182 = 0 then (if (t180 == (wrap64 (1 + (Int.tmod (wrap64 (a0)) 1000000))) && (t181 == t184)) = true then ((remontoirlaw03_wakes.f kj36).bind fun t195 => (some t195)) else (some false)) else (some false)) = some r := by rw [if_pos rfl] at H; exact H
                              clear H
                              have H := H1
                              clear H1
                              by_cases c40 : t182 = 0
                              · rw [if_pos c40] at H
                                have c40b0 : (t182 == 0) = true := beq_iff_eq.mpr c40
                                have c40b1 : (t182 != 0) = false := bne_eq_false_iff_eq.mpr c40
                                clear c40
                                by_cases c41 : (t180 == (wrap64 (1 + (Int.tmod (wrap64 (a0)) 1000000))) && (t181 == t184)) = true
                                · rw [if_pos c41] at H
                                  have c41b0 : (t180 == (wrap64 (1 + (Int.tmod (wrap64 (a0)) 1000000))) && (t181 == t184)) = true := c41
                                  (try (have c41b1 : decide (t180 = (wrap64 (1 + (Int.tmod (wrap64 (a0)) 1000000))) && (t181 == t184)) = true := by simpa using c41))
                                  (try (have c41b2 : (t180 == (wrap64 (1 + (Int.tmod (wrap64 (a0)) 1000000))) && (t181 == t184)) = true := by simpa using c41))
                                  clear c41
                                  replace H := Option.bind_eq_some_iff.mp H
                                  obtain ⟨t195, A420, H⟩ := H
                                  replace H : (some t195) = some r := H
                                  have A42 := Aside0.mk A420
                                  clear A420
                                  obtain rfl := Option.some.inj H
                                  have hnb43 := NB183_189.out
                                  have hnc43 := NB189_183.out
                                  have hnb44 := NB183_194.out
                                  have hnc44 := NB194_183.out
                                  have hcz45_0 : wc.cell? ⟨gb183, 0, none⟩ = some (.int .i64 t180) := (blk_cell BK183.out 0).trans rfl
                                  have hcz45_1 : wc.cell? ⟨gb183, 1, none⟩ = some (.int .u64 t181) := (blk_cell BK183.out 1).trans rfl
                                  have hfz45_0 := blk_frozen BK183.out 0
                                  have hfz45_1 := blk_frozen BK183.out 1
                                  go_wp2_with (first | (go_at_call 8; (with_reducible refine (remontoirlaw03_wakes.calls kj36  t195 _ A42.out).mono ?_); rintro e w46 ⟨rfl, hb⟩; have n0_ := Aside0.mk (blk_below (g := gb183) (o := .cells #[.int .i64 t180, .int .u64 t181] 25 (0, 0)) (by (with_reducible repeat (first | refine blk_drewN ?_ _ | refine blk_drew ?_ | refine blk_alloc ?_ _)); exact BK183.out) hb); have n1_ := Aside0.mk (blk_below (g := gb189) (o := .cells #[.int .i64 t186, .int .u64 t187] 25 (0, 0)) (by (with_reducible repeat (first | refine blk_drewN ?_ _ | refine blk_drew ?_ | refine blk_alloc ?_ _)); exact BK189.out) hb); have n2_ := Aside0.mk (blk_below (g := gb194) (o := .cells #[.int .i64 t191, .int .u64 t192] 25 (0, 0)) (by (with_reducible repeat (first | refine blk_drewN ?_ _ | refine blk_drew ?_ | refine blk_alloc ?_ _)); exact BK194.out) hb); have n3_ := Aside0.mk (below_step (by repeat (first | (with_reducible first | exact HB.out | apply below_alloc | apply pw_below_drewN | apply below_drew1 | refine below_set ?_ GE183.out | refine below_set ?_ GE189.out | refine below_set ?_ GE194.out) | exact HB.out)) hb); clear BK183; clear BK189; clear BK194; clear HB; have BK183 := n0_; have BK189 := n1_; have BK194 := n2_; have HB := n3_; clear n0_ n1_ n2_ n3_; (try clear hb); (try clear hb2); (try clear hk); (try clear hi)))
                                  go_ret
                                  exact ⟨by first | rfl | (simp [errW_none, errW_some] <;> rfl) | (simp [*, errW_none, errW_some] <;> rfl), by repeat (first | (with_reducible first | exact HB.out | apply below_alloc | apply pw_below_drewN | apply below_drew1 | refine below_set ?_ GE183.out | refine below_set ?_ GE189.out | refine below_set ?_ GE194.out) | exact HB.out)⟩
                                · rw [if_neg c41] at H
                                  have c41b0 : (t180 == (wrap64 (1 + (Int.tmod (wrap64 (a0)) 1000000))) && (t181 == t184)) = false := by simpa using c41
                                  (try (have c41b1 : decide (t180 = (wrap64 (1 + (Int.tmod (wrap64 (a0)) 1000000))) && (t181 == t184)) = false := by simpa using c41))
                                  (try (have c41b2 : (t180 == (wrap64 (1 + (Int.tmod (wrap64 (a0)) 1000000))) && (t181 == t184)) = false := by simpa using c41))
                                  (try (have c41b3 : ¬ (t180 = (wrap64 (1 + (Int.tmod (wrap64 (a0)) 1000000))) && (t181 == t184)) := by simpa using c41))
                                  clear c41
                                  obtain rfl := Option.some.inj H
                                  have hnb47 := NB183_189.out
                                  have hnc47 := NB189_183.out
                                  have hnb48 := NB183_194.out
                                  have hnc48 := NB194_183.out
                                  have hcz49_0 : wc.cell? ⟨gb183, 0, none⟩ = some (.int .i64 t180) := (blk_cell BK183.out 0).trans rfl
                                  have hcz49_1 : wc.cell? ⟨gb183, 1, none⟩ = some (.int .u64 t181) := (blk_cell BK183.out 1).trans rfl
                                  have hfz49_0 := blk_frozen BK183.out 0
                                  have hfz49_1 := blk_frozen BK183.out 1
                                  go_wp2
                                  go_ret
                                  exact ⟨by first | rfl | (simp [errW_none, errW_some] <;> rfl) | (simp [*, errW_none, errW_some] <;> rfl), by repeat (first | (with_reducible first | exact HB.out | apply below_alloc | apply pw_below_drewN | apply below_drew1 | refine below_set ?_ GE183.out | refine below_set ?_ GE189.out | refine below_set ?_ GE194.out) | exact HB.out)⟩
                              · rw [if_neg c40] at H
                                have c40b0 : (t182 == 0) = false := beq_eq_false_iff_ne.mpr c40
                                have c40b1 : (t182 != 0) = true := bne_iff_ne.mpr c40
                                obtain rfl := Option.some.inj H
                                go_wp2
                                go_ret
                                exact ⟨by first | rfl | (simp [errW_none, errW_some] <;> rfl) | (simp [*, errW_none, errW_some] <;> rfl), by repeat (first | (with_reducible first | exact HB.out | apply below_alloc | apply pw_below_drewN | apply below_drew1 | refine below_set ?_ GE183.out | refine below_set ?_ GE189.out | refine below_set ?_ GE194.out) | exact HB.out)⟩
                            · replace c39 := Bool.eq_false_iff.mpr c39
                              subst c39
                              have H1 : (if (t180 == 0 && (t181 == 0)) = true then (if t185 = 0 then (if t182 = 6 then ((remontoirlaw03_wakes.f kj36).bind fun t196 => (some t196)) else (some false)) else (if t182 = t185 then ((remontoirlaw03_wakes.f kj36).bind fun t197 => (some t197)) else (some false))) else (some false)) = some r := by rw [if_neg (show ¬ (false = true) by decide)] at H; exact H
                              clear H
                              have H := H1
                              clear H1
                              by_cases c50 : (t180 == 0 && (t181 == 0)) = true
                              · rw [if_pos c50] at H
                                have c50b0 : (t180 == 0 && (t181 == 0)) = true := c50
                                (try (have c50b1 : decide (t180 = 0 && (t181 == 0)) = true := by simpa using c50))
                                (try (have c50b2 : (t180 == 0 && (t181 == 0)) = true := by simpa using c50))
                                clear c50
                                by_cases c51 : t185 = 0
                                · rw [if_pos c51] at H
                                  have c51b0 : (t185 == 0) = true := beq_iff_eq.mpr c51
                                  have c51b1 : (t185 != 0) = false := bne_eq_false_iff_eq.mpr c51
                                  clear c51
                                  by_cases c52 : t182 = 6
                                  · rw [if_pos c52] at H
                                    have c52b0 : (t182 == 6) = true := beq_iff_eq.mpr c52
                                    have c52b1 : (t182 != 6) = false := bne_eq_false_iff_eq.mpr c52
                                    clear c52
                                    replace H := Option.bind_eq_some_iff.mp H
                                    obtain ⟨t196, A530, H⟩ := H
                                    replace H : (some t196) = some r := H
                                    have A53 := Aside0.mk A530
                                    clear A530
                                    obtain rfl := Option.some.inj H
                                    have hnb54 := NB183_189.out
                                    have hnc54 := NB189_183.out
                                    have hnb55 := NB183_194.out
                                    have hnc55 := NB194_183.out
                                    have hcz56_0 : wc.cell? ⟨gb183, 0, none⟩ = some (.int .i64 t180) := (blk_cell BK183.out 0).trans rfl
                                    have hcz56_1 : wc.cell? ⟨gb183, 1, none⟩ = some (.int .u64 t181) := (blk_cell BK183.out 1).trans rfl
                                    have hfz56_0 := blk_frozen BK183.out 0
                                    have hfz56_1 := blk_frozen BK183.out 1
                                    go_wp2_with (first | (go_at_call 8; (with_reducible refine (remontoirlaw03_wakes.calls kj36  t196 _ A53.out).mono ?_); rintro e w57 ⟨rfl, hb⟩; have n0_ := Aside0.mk (blk_below (g := gb183) (o := .cells #[.int .i64 t180, .int .u64 t181] 25 (0, 0)) (by (with_reducible repeat (first | refine blk_drewN ?_ _ | refine blk_drew ?_ | refine blk_alloc ?_ _)); exact BK183.out) hb); have n1_ := Aside0.mk (blk_below (g := gb189) (o := .cells #[.int .i64 t186, .int .u64 t187] 25 (0, 0)) (by (with_reducible repeat (first | refine blk_drewN ?_ _ | refine blk_drew ?_ | refine blk_alloc ?_ _)); exact BK189.out) hb); have n2_ := Aside0.mk (blk_below (g := gb194) (o := .cells #[.int .i64 t191, .int .u64 t192] 25 (0, 0)) (by (with_reducible repeat (first | refine blk_drewN ?_ _ | refine blk_drew ?_ | refine blk_alloc ?_ _)); exact BK194.out) hb); have n3_ := Aside0.mk (below_step (by repeat (first | (with_reducible first | exact HB.out | apply below_alloc | apply pw_below_drewN | apply below_drew1 | refine below_set ?_ GE183.out | refine below_set ?_ GE189.out | refine below_set ?_ GE194.out) | exact HB.out)) hb); clear BK183; clear BK189; clear BK194; clear HB; have BK183 := n0_; have BK189 := n1_; have BK194 := n2_; have HB := n3_; clear n0_ n1_ n2_ n3_; (try clear hb); (try clear hb2); (try clear hk); (try clear hi)))
                                    go_ret
                                    exact ⟨by first | rfl | (simp [errW_none, errW_some] <;> rfl) | (simp [*, errW_none, errW_some] <;> rfl), by repeat (first | (with_reducible first | exact HB.out | apply below_alloc | apply pw_below_drewN | apply below_drew1 | refine below_set ?_ GE183.out | refine below_set ?_ GE189.out | refine below_set ?_ GE194.out) | exact HB.out)⟩
                                  · rw [if_neg c52] at H
                                    have c52b0 : (t182 == 6) = false := beq_eq_false_iff_ne.mpr c52
                                    have c52b1 : (t182 != 6) = true := bne_iff_ne.mpr c52
                                    obtain rfl := Option.some.inj H
                                    have hnb58 := NB183_189.out
                                    have hnc58 := NB189_183.out
                                    have hnb59 := NB183_194.out
                                    have hnc59 := NB194_183.out
                                    have hcz60_0 : wc.cell? ⟨gb183, 0, none⟩ = some (.int .i64 t180) := (blk_cell BK183.out 0).trans rfl
                                    have hcz60_1 : wc.cell? ⟨gb183, 1, none⟩ = some (.int .u64 t181) := (blk_cell BK183.out 1).trans rfl
                                    have hfz60_0 := blk_frozen BK183.out 0
                                    have hfz60_1 := blk_frozen BK183.out 1
                                    go_wp2
                                    go_ret
                                    exact ⟨by first | rfl | (simp [errW_none, errW_some] <;> rfl) | (simp [*, errW_none, errW_some] <;> rfl), by repeat (first | (with_reducible first | exact HB.out | apply below_alloc | apply pw_below_drewN | apply below_drew1 | refine below_set ?_ GE183.out | refine below_set ?_ GE189.out | refine below_set ?_ GE194.out) | exact HB.out)⟩
                                · rw [if_neg c51] at H
                                  have c51b0 : (t185 == 0) = false := beq_eq_false_iff_ne.mpr c51
                                  have c51b1 : (t185 != 0) = true := bne_iff_ne.mpr c51
                                  by_cases c61 : t182 = t185
                                  · rw [if_pos c61] at H
                                    have c61b0 : (t182 == t185) = true := beq_iff_eq.mpr c61
                                    have c61b1 : (t182 != t185) = false := bne_eq_false_iff_eq.mpr c61
                                    clear c61
                                    replace H := Option.bind_eq_some_iff.mp H
                                    obtain ⟨t197, A620, H⟩ := H
                                    replace H : (some t197) = some r := H
                                    have A62 := Aside0.mk A620
                                    clear A620
                                    obtain rfl := Option.some.inj H
                                    have hnb63 := NB183_189.out
                                    have hnc63 := NB189_183.out
                                    have hnb64 := NB183_194.out
                                    have hnc64 := NB194_183.out
                                    have hcz65_0 : wc.cell? ⟨gb183, 0, none⟩ = some (.int .i64 t180) := (blk_cell BK183.out 0).trans rfl
                                    have hcz65_1 : wc.cell? ⟨gb183, 1, none⟩ = some (.int .u64 t181) := (blk_cell BK183.out 1).trans rfl
                                    have hfz65_0 := blk_frozen BK183.out 0
                                    have hfz65_1 := blk_frozen BK183.out 1
                                    go_wp2_with (first | (go_at_call 8; (with_reducible refine (remontoirlaw03_wakes.calls kj36  t197 _ A62.out).mono ?_); rintro e w66 ⟨rfl, hb⟩; have n0_ := Aside0.mk (blk_below (g := gb183) (o := .cells #[.int .i64 t180, .int .u64 t181] 25 (0, 0)) (by (with_reducible repeat (first | refine blk_drewN ?_ _ | refine blk_drew ?_ | refine blk_alloc ?_ _)); exact BK183.out) hb); have n1_ := Aside0.mk (blk_below (g := gb189) (o := .cells #[.int .i64 t186, .int .u64 t187] 25 (0, 0)) (by (with_reducible repeat (first | refine blk_drewN ?_ _ | refine blk_drew ?_ | refine blk_alloc ?_ _)); exact BK189.out) hb); have n2_ := Aside0.mk (blk_below (g := gb194) (o := .cells #[.int .i64 t191, .int .u64 t192] 25 (0, 0)) (by (with_reducible repeat (first | refine blk_drewN ?_ _ | refine blk_drew ?_ | refine blk_alloc ?_ _)); exact BK194.out) hb); have n3_ := Aside0.mk (below_step (by repeat (first | (with_reducible first | exact HB.out | apply below_alloc | apply pw_below_drewN | apply below_drew1 | refine below_set ?_ GE183.out | refine below_set ?_ GE189.out | refine below_set ?_ GE194.out) | exact HB.out)) hb); clear BK183; clear BK189; clear BK194; clear HB; have BK183 := n0_; have BK189 := n1_; have BK194 := n2_; have HB := n3_; clear n0_ n1_ n2_ n3_; (try clear hb); (try clear hb2); (try clear hk); (try clear hi)))
                                    go_ret
                                    exact ⟨by first | rfl | (simp [errW_none, errW_some] <;> rfl) | (simp [*, errW_none, errW_some] <;> rfl), by repeat (first | (with_reducible first | exact HB.out | apply below_alloc | apply pw_below_drewN | apply below_drew1 | refine below_set ?_ GE183.out | refine below_set ?_ GE189.out | refine below_set ?_ GE194.out) | exact HB.out)⟩
                                  · rw [if_neg c61] at H
                                    have c61b0 : (t182 == t185) = false := beq_eq_false_iff_ne.mpr c61
                                    have c61b1 : (t182 != t185) = true := bne_iff_ne.mpr c61
                                    obtain rfl := Option.some.inj H
                                    have hnb67 := NB183_189.out
                                    have hnc67 := NB189_183.out
                                    have hnb68 := NB183_194.out
                                    have hnc68 := NB194_183.out
                                    have hcz69_0 : wc.cell? ⟨gb183, 0, none⟩ = some (.int .i64 t180) := (blk_cell BK183.out 0).trans rfl
                                    have hcz69_1 : wc.cell? ⟨gb183, 1, none⟩ = some (.int .u64 t181) := (blk_cell BK183.out 1).trans rfl
                                    have hfz69_0 := blk_frozen BK183.out 0
                                    have hfz69_1 := blk_frozen BK183.out 1
                                    go_wp2
                                    go_ret
                                    exact ⟨by first | rfl | (simp [errW_none, errW_some] <;> rfl) | (simp [*, errW_none, errW_some] <;> rfl), by repeat (first | (with_reducible first | exact HB.out | apply below_alloc | apply pw_below_drewN | apply below_drew1 | refine below_set ?_ GE183.out | refine below_set ?_ GE189.out | refine below_set ?_ GE194.out) | exact HB.out)⟩
                              · rw [if_neg c50] at H
                                have c50b0 : (t180 == 0 && (t181 == 0)) = false := by simpa using c50
                                (try (have c50b1 : decide (t180 = 0 && (t181 == 0)) = false := by simpa using c50))
                                (try (have c50b2 : (t180 == 0 && (t181 == 0)) = false := by simpa using c50))
                                (try (have c50b3 : ¬ (t180 = 0 && (t181 == 0)) := by simpa using c50))
                                clear c50
                                obtain rfl := Option.some.inj H
                                have hnb70 := NB183_189.out
                                have hnc70 := NB189_183.out
                                have hnb71 := NB183_194.out
                                have hnc71 := NB194_183.out
                                have hcz72_0 : wc.cell? ⟨gb183, 0, none⟩ = some (.int .i64 t180) := (blk_cell BK183.out 0).trans rfl
                                have hcz72_1 : wc.cell? ⟨gb183, 1, none⟩ = some (.int .u64 t181) := (blk_cell BK183.out 1).trans rfl
                                have hfz72_0 := blk_frozen BK183.out 0
                                have hfz72_1 := blk_frozen BK183.out 1
                                go_wp2
                                go_ret
                                exact ⟨by first | rfl | (simp [errW_none, errW_some] <;> rfl) | (simp [*, errW_none, errW_some] <;> rfl), by repeat (first | (with_reducible first | exact HB.out | apply below_alloc | apply pw_below_drewN | apply below_drew1 | refine below_set ?_ GE183.out | refine below_set ?_ GE189.out | refine below_set ?_ GE194.out) | exact HB.out)⟩
                · rw [if_neg c17] at H
                  exact absurd H (by simp)
              · rw [if_neg c16] at H
                exact absurd H (by simp)
            · rw [if_neg c15] at H
              exact absurd H (by simp)
          · rw [if_neg c12] at H
            exact absurd H (by simp)
        · rw [if_neg c9] at H
          exact absurd H (by simp)
      · rw [if_neg c8] at H
        exact absurd H (by simp)
    · rw [if_neg c7] at H
      exact absurd H (by simp)

/-- THE ONE PURE STATEMENT of remontoirlaw03_CycleErrors: yours. -/
def remontoirlaw03_CycleErrors.Pure : Prop := ∀ (a0 : Int) (a1 : ByteArray), (Lit.int .u32 a0).wf = true → a1.size ≤ 140737488351232 → ∃ k, remontoirlaw03_CycleErrors.f k a0 a1 = some true
theorem remontoirlaw03_CycleErrors.walk (P : remontoirlaw03_CycleErrors.Pure) (a0 : Int) (a1 : ByteArray) (w : World) (w0 : (Lit.int .u32 a0).wf = true) (w1 : a1.size ≤ 140737488351232) :
    Calls Tryd.prog 5 #[.int .u32 a0, .string a1] w fun e w' => e = .returned (.bool true) ∧ Below w.heap.size w w' := by
  obtain ⟨k, h⟩ := P a0 a1 w0 w1
  refine (remontoirlaw03_CycleErrors.calls k a0 a1 true w h).mono ?_
  rintro e w' ⟨rfl, hd⟩
  exact ⟨rfl, hd⟩



/-! ### cycle_Print: function 15 -/
def cycle_Print.f (a0_0 : Int) (a0_1 : Int) : Option (ByteArray × Bool) := (cycle_Good.f a0_0 a0_1).bind fun t199 => (if t199 = true then ((span_Print.f a0_1).bind fun bt200 => ((strconv_Itoa.f a0_0).bind fun t202 => (if 1 + t202.size ≤ 9223372036854775807 then (if ((⟨#[82]⟩ : ByteArray) ++ t202).size + 1 ≤ 9223372036854775807 then (if (((⟨#[82]⟩ : ByteArray) ++ t202) ++ (⟨#[47]⟩ : ByteArray)).size + bt200.1.size ≤ 9223372036854775807 then (some ((((⟨#[82]⟩ : ByteArray) ++ t202) ++ (⟨#[47]⟩ : ByteArray)) ++ bt200.1, true)) else (none)) else (none)) else (none)))) else (some ((⟨#[]⟩ : ByteArray), false)))
set_option maxHeartbeats 8000000 in
set_option maxRecDepth 100000 in
theorem cycle_Print.calls (a0_0 : Int) (a0_1 : Int) (r1 : ByteArray) (r2 : Bool) (w : World) (hTab : Tab w) (h : cycle_Print.f a0_0 a0_1 = some (r1, r2)) :
    Calls Tryd.prog 15 #[.agg #[.int .i64 a0_0, .int .u64 a0_1]] w fun e w' => e = .returned (.tuple #[.string r1, .bool r2]) ∧ Below w.heap.size w w' := by
  have hu25 := Tryd.underlying25
  have HB := Aside0.mk (Below.refl w.heap.size w)
  have H : ((cycle_Good.f a0_0 a0_1).bind fun t199 => (if t199 = true then ((span_Print.f a0_1).bind fun bt200 => ((strconv_Itoa.f a0_0).bind fun t202 => (if 1 + t202.size ≤ 9223372036854775807 then (if ((⟨#[82]⟩ : ByteArray) ++ t202).size + 1 ≤ 9223372036854775807 then (if (((⟨#[82]⟩ : ByteArray) ++ t202) ++ (⟨#[47]⟩ : ByteArray)).size + bt200.1.size ≤ 9223372036854775807 then (some ((((⟨#[82]⟩ : ByteArray) ++ t202) ++ (⟨#[47]⟩ : ByteArray)) ++ bt200.1, true)) else (none)) else (none)) else (none)))) else (some ((⟨#[]⟩ : ByteArray), false)))) = some (r1, r2) := h
  clear h
  replace H := Option.bind_eq_some_iff.mp H
  obtain ⟨t199, A20, H⟩ := H
  replace H : (if t199 = true then ((span_Print.f a0_1).bind fun bt200 => ((strconv_Itoa.f a0_0).bind fun t202 => (if 1 + t202.size ≤ 9223372036854775807 then (if ((⟨#[82]⟩ : ByteArray) ++ t202).size + 1 ≤ 9223372036854775807 then (if (((⟨#[82]⟩ : ByteArray) ++ t202) ++ (⟨#[47]⟩ : ByteArray)).size + bt200.1.size ≤ 9223372036854775807 then (some ((((⟨#[82]⟩ : ByteArray) ++ t202) ++ (⟨#[47]⟩ : ByteArray)) ++ bt200.1, true)) else (none)) else (none)) else (none)))) else (some ((⟨#[]⟩ : ByteArray), false))) = some (r1, r2) := H
  have A2 := Aside0.mk A20
  clear A20
  by_cases c3 : t199 = true
  · subst c3
    have H1 : ((span_Print.f a0_1).bind fun bt200 => ((strconv_Itoa.f a0_0).bind fun t202 => (if 1 + t202.size ≤ 9223372036854775807 then (if ((⟨#[82]⟩ : ByteArray) ++ t202).size + 1 ≤ 9223372036854775807 then (if (((⟨#[82]⟩ : ByteArray) ++ t202) ++ (⟨#[47]⟩ : ByteArray)).size + bt200.1.size ≤ 9223372036854775807 then (some ((((⟨#[82]⟩ : ByteArray) ++ t202) ++ (⟨#[47]⟩ : ByteArray)) ++ bt200.1, true)) else (none)) else (none)) else (none)))) = some (r1, r2) := by rw [if_pos rfl] at H; exact H
    clear H
    have H := H1
    clear H1
    replace H := Option.bind_eq_some_iff.mp H
    obtain ⟨⟨t200, t201⟩, A40, H⟩ := H
    replace H : ((strconv_Itoa.f a0_0).bind fun t202 => (if 1 + t202.size ≤ 9223372036854775807 then (if ((⟨#[82]⟩ : ByteArray) ++ t202).size + 1 ≤ 9223372036854775807 then (if (((⟨#[82]⟩ : ByteArray) ++ t202) ++ (⟨#[47]⟩ : ByteArray)).size + t200.size ≤ 9223372036854775807 then (some ((((⟨#[82]⟩ : ByteArray) ++ t202) ++ (⟨#[47]⟩ : ByteArray)) ++ t200, true)) else (none)) else (none)) else (none))) = some (r1, r2) := H
    have A4 := Aside0.mk A40
    clear A40
    replace H := Option.bind_eq_some_iff.mp H
    obtain ⟨t202, A50, H⟩ := H
    replace H : (if 1 + t202.size ≤ 9223372036854775807 then (if ((⟨#[82]⟩ : ByteArray) ++ t202).size + 1 ≤ 9223372036854775807 then (if (((⟨#[82]⟩ : ByteArray) ++ t202) ++ (⟨#[47]⟩ : ByteArray)).size + t200.size ≤ 9223372036854775807 then (some ((((⟨#[82]⟩ : ByteArray) ++ t202) ++ (⟨#[47]⟩ : ByteArray)) ++ t200, true)) else (none)) else (none)) else (none)) = some (r1, r2) := H
    have A5 := Aside0.mk A50
    clear A50
    by_cases c6 : 1 + t202.size ≤ 9223372036854775807
    · rw [if_pos c6] at H
      have c6b0 := eq_true c6
      have c6b1 : decide (1 + t202.size ≤ 9223372036854775807) = true := decide_eq_true c6
      try have c6b2 : (9223372036854775807 < 1 + t202.size) = False := eq_false (Nat.not_lt.2 c6)
      by_cases c7 : ((⟨#[82]⟩ : ByteArray) ++ t202).size + 1 ≤ 9223372036854775807
      · rw [if_pos c7] at H
        have c7b0 := eq_true c7
        have c7b1 : decide (((⟨#[82]⟩ : ByteArray) ++ t202).size + 1 ≤ 9223372036854775807) = true := decide_eq_true c7
        have c7z := c7
        try simp only [ByteArray.size_append, szlit, List.size_toArray, List.length_cons, List.length_nil, Nat.zero_add, Nat.reduceAdd] at c7z
        try have c7b2 : (9223372036854775807 < ((⟨#[82]⟩ : ByteArray) ++ t202).size + 1) = False := eq_false (Nat.not_lt.2 c7)
        by_cases c8 : (((⟨#[82]⟩ : ByteArray) ++ t202) ++ (⟨#[47]⟩ : ByteArray)).size + t200.size ≤ 9223372036854775807
        · rw [if_pos c8] at H
          have c8b0 := eq_true c8
          have c8b1 : decide ((((⟨#[82]⟩ : ByteArray) ++ t202) ++ (⟨#[47]⟩ : ByteArray)).size + t200.size ≤ 9223372036854775807) = true := decide_eq_true c8
          have c8z := c8
          try simp only [ByteArray.size_append, szlit, List.size_toArray, List.length_cons, List.length_nil, Nat.zero_add, Nat.reduceAdd] at c8z
          try have c8b2 : (9223372036854775807 < (((⟨#[82]⟩ : ByteArray) ++ t202) ++ (⟨#[47]⟩ : ByteArray)).size + t200.size) = False := eq_false (Nat.not_lt.2 c8)
          simp only [Option.some.injEq, Prod.mk.injEq] at H
          obtain ⟨rfl, rfl⟩ := H
          go_enter Tryd.func15, Tryd.ntmps15
          go_wp2_with (first | ((with_reducible refine gate_dst (N := 1) rfl ?_); refine box_event ?hg (N := 1) ?hd (cs := #[.int .i64 a0_0, .int .u64 a0_1]) (t := 25) ?hr ?_; (case hd => rfl); (case hg => rfl); (case hr => first | (go_simp; done) | (go_simp; rfl)); intro gb198 hg w9 hbox hb; have n0_ := Aside0.mk (below_step (by repeat (first | (with_reducible first | exact HB.out | apply below_alloc | apply pw_below_drewN | apply below_drew1) | exact HB.out)) hb); have n1_ := Aside0.mk (hbox); have n2_ := Aside0.mk ((by rw [hg]; exact (below_size (by repeat (first | (with_reducible first | exact HB.out | apply below_alloc | apply pw_below_drewN | apply below_drew1) | exact HB.out))) : w.heap.size ≤ gb198)); have n3_ := Aside0.mk ((by rw [hg]; exact (below_size (by repeat (first | (with_reducible first | exact HB.out | apply below_alloc | apply pw_below_drewN | apply below_drew1) | exact HB.out))) : w.heap.size ≤ gb198)); clear HB; have HB := n0_; have BK198 := n1_; have GW198 := n2_; have GE198 := n3_; clear n0_ n1_ n2_ n3_; clear hb hbox hg; have hcz10_0 : w9.cell? ⟨gb198, 0, none⟩ = some (.int .i64 a0_0) := (blk_cell BK198.out 0).trans rfl; have hcz10_1 : w9.cell? ⟨gb198, 1, none⟩ = some (.int .u64 a0_1) := (blk_cell BK198.out 1).trans rfl; have hfz10_0 := blk_frozen BK198.out 0; have hfz10_1 := blk_frozen BK198.out 1) | ((with_reducible refine gate_callee (f := 16) rfl ?_); refine goesL_ (some 7) rfl rfl Tryd.func16 (by kernel_rfl) rfl #[.agg #[.int .i64 a0_0, .int .u64 a0_1]] rfl (by (try simp only [List.map_toArray, List.map_cons, List.map_nil]); first | done | rfl | (simp only [List.length_drop, List.length_take]; rfl)) ?_; (with_reducible refine (cycle_Good.calls a0_0 a0_1 true _ A2.out).mono ?_); rintro e w11 ⟨rfl, hb⟩; refine ⟨_, rfl, ?_⟩; have n0_ := Aside0.mk (blk_below (g := gb198) (o := .cells #[.int .i64 a0_0, .int .u64 a0_1] 25 (0, 0)) (by (with_reducible repeat (first | refine blk_drewN ?_ _ | refine blk_drew ?_ | refine blk_alloc ?_ _)); exact BK198.out) hb); have n1_ := Aside0.mk (below_step (by repeat (first | (with_reducible first | exact HB.out | apply below_alloc | apply pw_below_drewN | apply below_drew1 | refine below_set ?_ GE198.out) | exact HB.out)) hb); clear BK198; clear HB; have BK198 := n0_; have HB := n1_; clear n0_ n1_; (try clear hb); (try clear hb2); (try clear hk); (try clear hi); have hcz12_0 : w11.cell? ⟨gb198, 0, none⟩ = some (.int .i64 a0_0) := (blk_cell BK198.out 0).trans rfl; have hcz12_1 : w11.cell? ⟨gb198, 1, none⟩ = some (.int .u64 a0_1) := (blk_cell BK198.out 1).trans rfl; have hfz12_0 := blk_frozen BK198.out 0; have hfz12_1 := blk_frozen BK198.out 1) | ((with_reducible refine gate_callee (f := 31) rfl ?_); refine goesL_ (some 12) rfl rfl Tryd.func31 (by kernel_rfl) rfl #[.int .u64 a0_1] rfl (by (try simp only [List.map_toArray, List.map_cons, List.map_nil]); first | done | rfl | (simp only [List.length_drop, List.length_take]; rfl)) ?_; (with_reducible refine (span_Print.calls a0_1 t200 t201 _ (Tab.below hTab (by repeat (first | exact HB.out | apply below_alloc | apply pw_below_drewN | apply below_drew1)))  A4.out).mono ?_); rintro e w13 ⟨rfl, hb⟩; refine ⟨_, rfl, ?_⟩; have n0_ := Aside0.mk (blk_below (g := gb198) (o := .cells #[.int .i64 a0_0, .int .u64 a0_1] 25 (0, 0)) (by (with_reducible repeat (first | refine blk_drewN ?_ _ | refine blk_drew ?_ | refine blk_alloc ?_ _)); exact BK198.out) hb); have n1_ := Aside0.mk (below_step (by repeat (first | (with_reducible first | exact HB.out | apply below_alloc | apply pw_below_drewN | apply below_drew1 | refine below_set ?_ GE198.out) | exact HB.out)) hb); clear BK198; clear HB; have BK198 := n0_; have HB := n1_; clear n0_ n1_; (try clear hb); (try clear hb2); (try clear hk); (try clear hi); have hcz14_0 : w13.cell? ⟨gb198, 0, none⟩ = some (.int .i64 a0_0) := (blk_cell BK198.out 0).trans rfl; have hcz14_1 : w13.cell? ⟨gb198, 1, none⟩ = some (.int .u64 a0_1) := (blk_cell BK198.out 1).trans rfl; have hfz14_0 := blk_frozen BK198.out 0; have hfz14_1 := blk_frozen BK198.out 1) | ((with_reducible refine gate_callee (f := 32) rfl ?_); refine goesL_ (some 17) rfl rfl Tryd.func32 (by kernel_rfl) rfl #[.int .i64 a0_0] rfl (by (try simp only [List.map_toArray, List.map_cons, List.map_nil]); first | done | rfl | (simp only [List.length_drop, List.length_take]; rfl)) ?_; (with_reducible refine (strconv_Itoa.calls a0_0 t202 _ (Tab.below hTab (by repeat (first | exact HB.out | apply below_alloc | apply pw_below_drewN | apply below_drew1)))  A5.out).mono ?_); rintro e w15 ⟨rfl, hb⟩; refine ⟨_, rfl, ?_⟩; have n0_ := Aside0.mk (blk_below (g := gb198) (o := .cells #[.int .i64 a0_0, .int .u64 a0_1] 25 (0, 0)) (by (with_reducible repeat (first | refine blk_drewN ?_ _ | refine blk_drew ?_ | refine blk_alloc ?_ _)); exact BK198.out) hb); have n1_ := Aside0.mk (below_step (by repeat (first | (with_reducible first | exact HB.out | apply below_alloc | apply pw_below_drewN | apply below_drew1 | refine below_set ?_ GE198.out) | exact HB.out)) hb); clear BK198; clear HB; have BK198 := n0_; have HB := n1_; clear n0_ n1_; (try clear hb); (try clear hb2); (try clear hk); (try clear hi)))
          go_ret2
          exact ⟨by first | rfl | (simp [errW_none, errW_some] <;> rfl) | (simp [*, errW_none, errW_some] <;> rfl), by repeat (first | (with_reducible first | exact HB.out | apply below_alloc | apply pw_below_drewN | apply below_drew1 | refine below_set ?_ GE198.out) | exact HB.out)⟩
        · rw [if_neg c8] at H
          exact absurd H (by simp)
      · rw [if_neg c7] at H
        exact absurd H (by simp)
    · rw [if_neg c6] at H
      exact absurd H (by simp)
  · replace c3 := Bool.eq_false_iff.mpr c3
    subst c3
    have H1 : (some ((⟨#[]⟩ : ByteArray), false)) = some (r1, r2) := by rw [if_neg (show ¬ (false = true) by decide)] at H; exact H
    clear H
    have H := H1
    clear H1
    simp only [Option.some.injEq, Prod.mk.injEq] at H
    obtain ⟨rfl, rfl⟩ := H
    go_enter Tryd.func15, Tryd.ntmps15
    go_wp2_with (first | ((with_reducible refine gate_dst (N := 1) rfl ?_); refine box_event ?hg (N := 1) ?hd (cs := #[.int .i64 a0_0, .int .u64 a0_1]) (t := 25) ?hr ?_; (case hd => rfl); (case hg => rfl); (case hr => first | (go_simp; done) | (go_simp; rfl)); intro gb198 hg w16 hbox hb; have n0_ := Aside0.mk (below_step (by repeat (first | (with_reducible first | exact HB.out | apply below_alloc | apply pw_below_drewN | apply below_drew1) | exact HB.out)) hb); have n1_ := Aside0.mk (hbox); have n2_ := Aside0.mk ((by rw [hg]; exact (below_size (by repeat (first | (with_reducible first | exact HB.out | apply below_alloc | apply pw_below_drewN | apply below_drew1) | exact HB.out))) : w.heap.size ≤ gb198)); have n3_ := Aside0.mk ((by rw [hg]; exact (below_size (by repeat (first | (with_reducible first | exact HB.out | apply below_alloc | apply pw_below_drewN | apply below_drew1) | exact HB.out))) : w.heap.size ≤ gb198)); clear HB; have HB := n0_; have BK198 := n1_; have GW198 := n2_; have GE198 := n3_; clear n0_ n1_ n2_ n3_; clear hb hbox hg; have hcz17_0 : w16.cell? ⟨gb198, 0, none⟩ = some (.int .i64 a0_0) := (blk_cell BK198.out 0).trans rfl; have hcz17_1 : w16.cell? ⟨gb198, 1, none⟩ = some (.int .u64 a0_1) := (blk_cell BK198.out 1).trans rfl; have hfz17_0 := blk_frozen BK198.out 0; have hfz17_1 := blk_frozen BK198.out 1) | ((with_reducible refine gate_callee (f := 16) rfl ?_); refine goesL_ (some 7) rfl rfl Tryd.func16 (by kernel_rfl) rfl #[.agg #[.int .i64 a0_0, .int .u64 a0_1]] rfl (by (try simp only [List.map_toArray, List.map_cons, List.map_nil]); first | done | rfl | (simp only [List.length_drop, List.length_take]; rfl)) ?_; (with_reducible refine (cycle_Good.calls a0_0 a0_1 false _ A2.out).mono ?_); rintro e w18 ⟨rfl, hb⟩; refine ⟨_, rfl, ?_⟩; have n0_ := Aside0.mk (blk_below (g := gb198) (o := .cells #[.int .i64 a0_0, .int .u64 a0_1] 25 (0, 0)) (by (with_reducible repeat (first | refine blk_drewN ?_ _ | refine blk_drew ?_ | refine blk_alloc ?_ _)); exact BK198.out) hb); have n1_ := Aside0.mk (below_step (by repeat (first | (with_reducible first | exact HB.out | apply below_alloc | apply pw_below_drewN | apply below_drew1 | refine below_set ?_ GE198.out) | exact HB.out)) hb); clear BK198; clear HB; have BK198 := n0_; have HB := n1_; clear n0_ n1_; (try clear hb); (try clear hb2); (try clear hk); (try clear hi)))
    go_ret2
    exact ⟨by first | rfl | (simp [errW_none, errW_some] <;> rfl) | (simp [*, errW_none, errW_some] <;> rfl), by repeat (first | (with_reducible first | exact HB.out | apply below_alloc | apply pw_below_drewN | apply below_drew1 | refine below_set ?_ GE198.out) | exact HB.out)⟩

/-! ### remontoirref03_Good: function 17 -/
def remontoirref03_Good.f (a0_0 : Int) (a0_1 : Int) : Option (Bool) := if a0_0 ≥ 1 then (if a0_0 ≤ 1000000 then (if a0_1 ≥ 1 then (some (decide (a0_1 ≤ 1125899906842624))) else (some false)) else (some false)) else (some false)
set_option maxHeartbeats 8000000 in
set_option maxRecDepth 100000 in
theorem remontoirref03_Good.calls (a0_0 : Int) (a0_1 : Int) (r : Bool) (w : World) (h : remontoirref03_Good.f a0_0 a0_1 = some r) :
    Calls Tryd.prog 17 #[.agg #[.int .i64 a0_0, .int .u64 a0_1]] w fun e w' => e = .returned (.bool r) ∧ Below w.heap.size w w' := by
  have hu25 := Tryd.underlying25
  have HB := Aside0.mk (Below.refl w.heap.size w)
  have H : (if a0_0 ≥ 1 then (if a0_0 ≤ 1000000 then (if a0_1 ≥ 1 then (some (decide (a0_1 ≤ 1125899906842624))) else (some false)) else (some false)) else (some false)) = some r := h
  clear h
  by_cases c2 : a0_0 ≥ 1
  · rw [if_pos c2] at H
    have c2b0 : decide (1 ≤ a0_0) = true := decide_eq_true c2
    clear c2
    by_cases c3 : a0_0 ≤ 1000000
    · rw [if_pos c3] at H
      have c3b0 : decide (a0_0 ≤ 1000000) = true := decide_eq_true c3
      clear c3
      by_cases c4 : a0_1 ≥ 1
      · rw [if_pos c4] at H
        have c4b0 : decide (1 ≤ a0_1) = true := decide_eq_true c4
        clear c4
        obtain rfl := Option.some.inj H
        go_enter Tryd.func17, Tryd.ntmps17
        go_wp2_with (first | ((with_reducible refine gate_dst (N := 1) rfl ?_); refine box_event ?hg (N := 1) ?hd (cs := #[.int .i64 a0_0, .int .u64 a0_1]) (t := 25) ?hr ?_; (case hd => rfl); (case hg => rfl); (case hr => first | (go_simp; done) | (go_simp; rfl)); intro gb203 hg w5 hbox hb; have n0_ := Aside0.mk (below_step (by repeat (first | (with_reducible first | exact HB.out | apply below_alloc | apply pw_below_drewN | apply below_drew1) | exact HB.out)) hb); have n1_ := Aside0.mk (hbox); have n2_ := Aside0.mk ((by rw [hg]; exact (below_size (by repeat (first | (with_reducible first | exact HB.out | apply below_alloc | apply pw_below_drewN | apply below_drew1) | exact HB.out))) : w.heap.size ≤ gb203)); have n3_ := Aside0.mk ((by rw [hg]; exact (below_size (by repeat (first | (with_reducible first | exact HB.out | apply below_alloc | apply pw_below_drewN | apply below_drew1) | exact HB.out))) : w.heap.size ≤ gb203)); clear HB; have HB := n0_; have BK203 := n1_; have GW203 := n2_; have GE203 := n3_; clear n0_ n1_ n2_ n3_; clear hb hbox hg; have hcz6_0 : w5.cell? ⟨gb203, 0, none⟩ = some (.int .i64 a0_0) := (blk_cell BK203.out 0).trans rfl; have hcz6_1 : w5.cell? ⟨gb203, 1, none⟩ = some (.int .u64 a0_1) := (blk_cell BK203.out 1).trans rfl; have hfz6_0 := blk_frozen BK203.out 0; have hfz6_1 := blk_frozen BK203.out 1))
        go_ret
        exact ⟨by first | rfl | (simp [errW_none, errW_some] <;> rfl) | (simp [*, errW_none, errW_some] <;> rfl), by repeat (first | (with_reducible first | exact HB.out | apply below_alloc | apply pw_below_drewN | apply below_drew1 | refine below_set ?_ GE203.out) | exact HB.out)⟩
      · rw [if_neg c4] at H
        have c4b0 : decide (1 ≤ a0_1) = false := decide_eq_false c4
        clear c4
        obtain rfl := Option.some.inj H
        go_enter Tryd.func17, Tryd.ntmps17
        go_wp2_with (first | ((with_reducible refine gate_dst (N := 1) rfl ?_); refine box_event ?hg (N := 1) ?hd (cs := #[.int .i64 a0_0, .int .u64 a0_1]) (t := 25) ?hr ?_; (case hd => rfl); (case hg => rfl); (case hr => first | (go_simp; done) | (go_simp; rfl)); intro gb203 hg w7 hbox hb; have n0_ := Aside0.mk (below_step (by repeat (first | (with_reducible first | exact HB.out | apply below_alloc | apply pw_below_drewN | apply below_drew1) | exact HB.out)) hb); have n1_ := Aside0.mk (hbox); have n2_ := Aside0.mk ((by rw [hg]; exact (below_size (by repeat (first | (with_reducible first | exact HB.out | apply below_alloc | apply pw_below_drewN | apply below_drew1) | exact HB.out))) : w.heap.size ≤ gb203)); have n3_ := Aside0.mk ((by rw [hg]; exact (below_size (by repeat (first | (with_reducible first | exact HB.out | apply below_alloc | apply pw_below_drewN | apply below_drew1) | exact HB.out))) : w.heap.size ≤ gb203)); clear HB; have HB := n0_; have BK203 := n1_; have GW203 := n2_; have GE203 := n3_; clear n0_ n1_ n2_ n3_; clear hb hbox hg; have hcz8_0 : w7.cell? ⟨gb203, 0, none⟩ = some (.int .i64 a0_0) := (blk_cell BK203.out 0).trans rfl; have hcz8_1 : w7.cell? ⟨gb203, 1, none⟩ = some (.int .u64 a0_1) := (blk_cell BK203.out 1).trans rfl; have hfz8_0 := blk_frozen BK203.out 0; have hfz8_1 := blk_frozen BK203.out 1))
        go_ret
        exact ⟨by first | rfl | (simp [errW_none, errW_some] <;> rfl) | (simp [*, errW_none, errW_some] <;> rfl), by repeat (first | (with_reducible first | exact HB.out | apply below_alloc | apply pw_below_drewN | apply below_drew1 | refine below_set ?_ GE203.out) | exact HB.out)⟩
    · rw [if_neg c3] at H
      have c3b0 : decide (a0_0 ≤ 1000000) = false := decide_eq_false c3
      clear c3
      obtain rfl := Option.some.inj H
      go_enter Tryd.func17, Tryd.ntmps17
      go_wp2_with (first | ((with_reducible refine gate_dst (N := 1) rfl ?_); refine box_event ?hg (N := 1) ?hd (cs := #[.int .i64 a0_0, .int .u64 a0_1]) (t := 25) ?hr ?_; (case hd => rfl); (case hg => rfl); (case hr => first | (go_simp; done) | (go_simp; rfl)); intro gb203 hg w9 hbox hb; have n0_ := Aside0.mk (below_step (by repeat (first | (with_reducible first | exact HB.out | apply below_alloc | apply pw_below_drewN | apply below_drew1) | exact HB.out)) hb); have n1_ := Aside0.mk (hbox); have n2_ := Aside0.mk ((by rw [hg]; exact (below_size (by repeat (first | (with_reducible first | exact HB.out | apply below_alloc | apply pw_below_drewN | apply below_drew1) | exact HB.out))) : w.heap.size ≤ gb203)); have n3_ := Aside0.mk ((by rw [hg]; exact (below_size (by repeat (first | (with_reducible first | exact HB.out | apply below_alloc | apply pw_below_drewN | apply below_drew1) | exact HB.out))) : w.heap.size ≤ gb203)); clear HB; have HB := n0_; have BK203 := n1_; have GW203 := n2_; have GE203 := n3_; clear n0_ n1_ n2_ n3_; clear hb hbox hg; have hcz10_0 : w9.cell? ⟨gb203, 0, none⟩ = some (.int .i64 a0_0) := (blk_cell BK203.out 0).trans rfl; have hcz10_1 : w9.cell? ⟨gb203, 1, none⟩ = some (.int .u64 a0_1) := (blk_cell BK203.out 1).trans rfl; have hfz10_0 := blk_frozen BK203.out 0; have hfz10_1 := blk_frozen BK203.out 1))
      go_ret
      exact ⟨by first | rfl | (simp [errW_none, errW_some] <;> rfl) | (simp [*, errW_none, errW_some] <;> rfl), by repeat (first | (with_reducible first | exact HB.out | apply below_alloc | apply pw_below_drewN | apply below_drew1 | refine below_set ?_ GE203.out) | exact HB.out)⟩
  · rw [if_neg c2] at H
    have c2b0 : decide (1 ≤ a0_0) = false := decide_eq_false c2
    clear c2
    obtain rfl := Option.some.inj H
    go_enter Tryd.func17, Tryd.ntmps17
    go_wp2_with (first | ((with_reducible refine gate_dst (N := 1) rfl ?_); refine box_event ?hg (N := 1) ?hd (cs := #[.int .i64 a0_0, .int .u64 a0_1]) (t := 25) ?hr ?_; (case hd => rfl); (case hg => rfl); (case hr => first | (go_simp; done) | (go_simp; rfl)); intro gb203 hg w11 hbox hb; have n0_ := Aside0.mk (below_step (by repeat (first | (with_reducible first | exact HB.out | apply below_alloc | apply pw_below_drewN | apply below_drew1) | exact HB.out)) hb); have n1_ := Aside0.mk (hbox); have n2_ := Aside0.mk ((by rw [hg]; exact (below_size (by repeat (first | (with_reducible first | exact HB.out | apply below_alloc | apply pw_below_drewN | apply below_drew1) | exact HB.out))) : w.heap.size ≤ gb203)); have n3_ := Aside0.mk ((by rw [hg]; exact (below_size (by repeat (first | (with_reducible first | exact HB.out | apply below_alloc | apply pw_below_drewN | apply below_drew1) | exact HB.out))) : w.heap.size ≤ gb203)); clear HB; have HB := n0_; have BK203 := n1_; have GW203 := n2_; have GE203 := n3_; clear n0_ n1_ n2_ n3_; clear hb hbox hg; have hcz12_0 : w11.cell? ⟨gb203, 0, none⟩ = some (.int .i64 a0_0) := (blk_cell BK203.out 0).trans rfl; have hcz12_1 : w11.cell? ⟨gb203, 1, none⟩ = some (.int .u64 a0_1) := (blk_cell BK203.out 1).trans rfl; have hfz12_0 := blk_frozen BK203.out 0; have hfz12_1 := blk_frozen BK203.out 1))
    go_ret
    exact ⟨by first | rfl | (simp [errW_none, errW_some] <;> rfl) | (simp [*, errW_none, errW_some] <;> rfl), by repeat (first | (with_reducible first | exact HB.out | apply below_alloc | apply pw_below_drewN | apply below_drew1 | refine below_set ?_ GE203.out) | exact HB.out)⟩


end Go.Proofs.YtjkdibkgmfnkdaaDoor.Q
