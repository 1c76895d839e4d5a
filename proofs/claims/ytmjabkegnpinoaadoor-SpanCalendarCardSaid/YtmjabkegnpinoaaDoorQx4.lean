/- What Go functions compute, as plain Lean functions, and that the machine comes to just that: written by wip/tools/printx.py (my run of the printer, with contracts of mine beside it). -/
import Derived.Test.YtmjabkegnpinoaaDoorQx0
import Derived.Test.YtmjabkegnpinoaaDoorQx1
namespace Go.Proofs.YtmjabkegnpinoaaDoor.Q
open Go.Proofs.YtmjabkegnpinoaaDoor.Ext Go.Proofs.YtmjabkegnpinoaaDoor.B Go.RowKit Go.Proofs.YtmjabkegnpinoaaDoorW.PrintWords Go.Proofs.YtmjabkegnpinoaaDoorW.PrintLast Go.Proofs.YtmjabkegnpinoaaDoorW.PrintMore
attribute [local go_sem] max2_int min2_int max_two min_two max_three min_three max_four min_four   -- for this text's walks alone
set_option linter.unusedVariables false
set_option linter.unusedSimpArgs false

/-! ### remontoirlaw02_SpanCalendar: function 8 -/
def remontoirlaw02_SpanCalendar.j0 : Nat → Int → ByteArray → ByteArray → ByteArray → Option (Bool)
  | 0, _, _, _, _ => none
  | k + 1, x0, x2, x7, x8 => if 1 + x7.size ≤ 9223372036854775807 then (if ((⟨#[80]⟩ : ByteArray) ++ x7).size + x8.size ≤ 9223372036854775807 then (if (((⟨#[80]⟩ : ByteArray) ++ x7) ++ x8).size + x2.size ≤ 9223372036854775807 then ((span_Parse.f ((((⟨#[80]⟩ : ByteArray) ++ x7) ++ x8) ++ x2)).bind fun bt161 => (if ((⟨#[112]⟩ : ByteArray) ++ x7).size + 1 ≤ 9223372036854775807 then ((span_Parse.f (((⟨#[112]⟩ : ByteArray) ++ x7) ++ (⟨#[87]⟩ : ByteArray))).bind fun bt163 => (if 2 + x7.size ≤ 9223372036854775807 then (if ((⟨#[80, 48]⟩ : ByteArray) ++ x7).size + 1 ≤ 9223372036854775807 then ((span_Parse.f (((⟨#[80, 48]⟩ : ByteArray) ++ x7) ++ (⟨#[87]⟩ : ByteArray))).bind fun bt165 => (if ((⟨#[80]⟩ : ByteArray) ++ x7).size + 1 ≤ 9223372036854775807 then ((span_Parse.f (((⟨#[80]⟩ : ByteArray) ++ x7) ++ (⟨#[87]⟩ : ByteArray))).bind fun bt167 => (if bt161.1 = 0 then (if bt161.2 = 4 then (if bt163.2 = 2 then (if bt165.2 = 2 then (if bt167.2 = 0 then (if bt167.1 = (IntKind.u64.wrap ((IntKind.u64.wrap (x0)) * 604800)) then ((remontoirlaw02_wakes.f).bind fun t169 => (some t169)) else (if bt167.2 = 3 then (if (IntKind.u64.wrap ((IntKind.u64.wrap (x0)) * 604800)) > 1125899906842624 then ((remontoirlaw02_wakes.f).bind fun t170 => (some t170)) else (some false)) else (some false))) else (if bt167.2 = 3 then (if (IntKind.u64.wrap ((IntKind.u64.wrap (x0)) * 604800)) > 1125899906842624 then ((remontoirlaw02_wakes.f).bind fun t171 => (some t171)) else (some false)) else (some false))) else (some false)) else (some false)) else (some false)) else (some false))) else (none))) else (none)) else (none))) else (none))) else (none)) else (none)) else (none)
def remontoirlaw02_SpanCalendar.f (k : Nat) (a0 : Int) (a1 : Bool) (a2 : ByteArray) : Option (Bool) := if (a2.size : Int) > 100 then ((remontoirlaw02_wakes.f).bind fun t159 => (some t159)) else ((remontoirref02_Digits.f k (IntKind.u64.wrap (a0))).bind fun t160 => (if a1 = true then (remontoirlaw02_SpanCalendar.j0 k a0 a2 t160 (⟨#[89]⟩ : ByteArray)) else (remontoirlaw02_SpanCalendar.j0 k a0 a2 t160 (⟨#[77]⟩ : ByteArray))))
theorem remontoirlaw02_SpanCalendar.mono_l : ∀ k, (∀ y0 y1 y2 y3, LeO (remontoirlaw02_SpanCalendar.j0 k y0 y1 y2 y3) (remontoirlaw02_SpanCalendar.j0 (k + 1) y0 y1 y2 y3))
  | 0 => fun _ _ _ _ r h => by simp [remontoirlaw02_SpanCalendar.j0] at h
  | k + 1 => by
    have ih0 := remontoirlaw02_SpanCalendar.mono_l k
    · intro y0 y1 y2 y3
      unfold remontoirlaw02_SpanCalendar.j0
      repeat' first
      | (with_reducible exact ih0 _ _ _ _)
      | (with_reducible exact remontoirref02_Digits.mono _ _)
      | (with_reducible exact LeO.refl _)
      | (with_reducible exact LeO.none _)
      | (with_reducible refine LeO.ite ?_ ?_)
      | (with_reducible refine LeO.bind ?_ (fun _ => ?_))
      | exact ih0 _ _ _ _
      | exact remontoirref02_Digits.mono _ _
      | exact LeO.none _
      | refine LeO.ite ?_ ?_
      | refine LeO.bind ?_ (fun _ => ?_)
theorem remontoirlaw02_SpanCalendar.mono : ∀ a0 a1 a2 k, LeO (remontoirlaw02_SpanCalendar.f k a0 a1 a2) (remontoirlaw02_SpanCalendar.f (k + 1) a0 a1 a2) := by
  intro a0 a1 a2 k
  have ih0 := remontoirlaw02_SpanCalendar.mono_l k
  unfold remontoirlaw02_SpanCalendar.f
  repeat' first
      | (with_reducible exact ih0 _ _ _ _)
      | (with_reducible exact remontoirref02_Digits.mono _ _)
      | (with_reducible exact LeO.refl _)
      | (with_reducible exact LeO.none _)
      | (with_reducible refine LeO.ite ?_ ?_)
      | (with_reducible refine LeO.bind ?_ (fun _ => ?_))
      | exact ih0 _ _ _ _
      | exact remontoirref02_Digits.mono _ _
      | exact LeO.none _
      | refine LeO.ite ?_ ?_
      | refine LeO.bind ?_ (fun _ => ?_)
set_option maxHeartbeats 8000000 in
set_option maxRecDepth 100000 in
theorem remontoirlaw02_SpanCalendar.calls (k : Nat) (a0 : Int) (a1 : Bool) (a2 : ByteArray) (r : Bool) (w : World) (hTab : Tab w) (h : remontoirlaw02_SpanCalendar.f k a0 a1 a2 = some r) :
    Calls Tryd.prog 8 #[.int .u32 a0, .bool a1, .string a2] w fun e w' => e = .returned (.bool r) ∧ Below w.heap.size w w' := by
  have HB := Aside0.mk (Below.refl w.heap.size w)
  have H : (if (a2.size : Int) > 100 then ((remontoirlaw02_wakes.f).bind fun t159 => (some t159)) else ((remontoirref02_Digits.f k (IntKind.u64.wrap (a0))).bind fun t160 => (if a1 = true then (remontoirlaw02_SpanCalendar.j0 k a0 a2 t160 (⟨#[89]⟩ : ByteArray)) else (remontoirlaw02_SpanCalendar.j0 k a0 a2 t160 (⟨#[77]⟩ : ByteArray))))) = some r := h
  clear h
  by_cases c4 : (a2.size : Int) > 100
  · rw [if_pos c4] at H
    have c4b0 : decide (100 < (a2.size : Int)) = true := decide_eq_true c4
    have c4b1 : decide (100 < a2.size) = true := decide_eq_true (by omega)
    clear c4
    replace H := Option.bind_eq_some_iff.mp H
    obtain ⟨t159, A50, H⟩ := H
    replace H : (some t159) = some r := H
    have A5 := Aside0.mk A50
    clear A50
    obtain rfl := Option.some.inj H
    go_enter Tryd.func8, Tryd.ntmps8
    go_wp2_with (first | ((with_reducible refine gate_callee (f := 9) rfl ?_); refine goesL_ (some 20) rfl rfl Tryd.func9 (by kernel_rfl) rfl #[] rfl (by (try simp only [List.map_toArray, List.map_cons, List.map_nil]); first | done | rfl | (simp only [List.length_drop, List.length_take]; rfl)) ?_; (with_reducible refine (remontoirlaw02_wakes.calls  t159 _ (Tab.below hTab (by repeat (first | exact HB.out | apply below_alloc | apply pw_below_drewN | apply below_drew1)))  A5.out).mono ?_); rintro e w6 ⟨rfl, hb⟩; refine ⟨_, rfl, ?_⟩; have n0_ := Aside0.mk (below_step (by repeat (first | (with_reducible first | exact HB.out | apply below_alloc | apply pw_below_drewN | apply below_drew1) | exact HB.out)) hb); clear HB; have HB := n0_; clear n0_; (try clear hb); (try clear hb2); (try clear hk); (try clear hi)))
    go_ret
    exact ⟨by first | rfl | (simp [errW_none, errW_some] <;> rfl) | (simp [*, errW_none, errW_some] <;> rfl), by repeat (first | (with_reducible first | exact HB.out | apply below_alloc | apply pw_below_drewN | apply below_drew1) | exact HB.out)⟩
  · rw [if_neg c4] at H
    have c4b0 : decide (100 < (a2.size : Int)) = false := decide_eq_false c4
    have c4b1 : decide (100 < a2.size) = false := decide_eq_false (by omega)
    clear c4
    replace H := Option.bind_eq_some_iff.mp H
    obtain ⟨t160, A70, H⟩ := H
    replace H : (if a1 = true then (remontoirlaw02_SpanCalendar.j0 k a0 a2 t160 (⟨#[89]⟩ : ByteArray)) else (remontoirlaw02_SpanCalendar.j0 k a0 a2 t160 (⟨#[77]⟩ : ByteArray))) = some r := H
    have A7 := Aside0.mk A70
    clear A70
    have HC8 := Aside0.mk H
    clear H
    go_enter Tryd.func8, Tryd.ntmps8
    go_upto_if 24 with (first | ((with_reducible refine gate_callee (f := 14) rfl ?_); refine goesL_ (some 23) rfl rfl Tryd.func14 (by kernel_rfl) rfl #[.int .u64 (IntKind.u64.wrap (a0))] rfl (by (try simp only [List.map_toArray, List.map_cons, List.map_nil]); first | done | rfl | (simp only [List.length_drop, List.length_take]; rfl)) ?_; (with_reducible refine (remontoirref02_Digits.calls k (IntKind.u64.wrap (a0)) t160 _ A7.out).mono ?_); rintro e w9 ⟨rfl, hb⟩; refine ⟨_, rfl, ?_⟩; have n0_ := Aside0.mk (below_step (by repeat (first | (with_reducible first | exact HB.out | apply below_alloc | apply pw_below_drewN | apply below_drew1) | exact HB.out)) hb); clear HB; have HB := n0_; clear n0_; (try clear hb); (try clear hb2); (try clear hk); (try clear hi)))
    (try simp only [Act.put, List.setIfInBounds_toArray, List.set_cons_zero, List.set_cons_succ])
    go_cut [8] (fun v8 wc => ∃ (kq : Nat) (x8_7 : ByteArray), v8 = .string x8_7 ∧ Aside0 (remontoirlaw02_SpanCalendar.j0 kq a0 a2 t160 x8_7 = some r) ∧ Aside0 (kq ≤ k) ∧ Aside0 (Below w.heap.size w wc))
    case first =>
      have H := HC8.out
      clear HC8
      by_cases c10 : a1 = true
      · subst c10
        have H1 : (remontoirlaw02_SpanCalendar.j0 k a0 a2 t160 (⟨#[89]⟩ : ByteArray)) = some r := by rw [if_pos rfl] at H; exact H
        clear H
        have H := H1
        clear H1
        have H' := Aside0.mk H
        clear H
        go_wp2
        go_meet
        case rel => exact ⟨_, ((⟨#[89]⟩ : ByteArray)), (by first | rfl | (simp; done) | (simp [*]; done)), H', ⟨by first | omega | exact Nat.le_refl _⟩, ⟨by repeat (first | (with_reducible first | exact HB.out | apply below_alloc | apply pw_below_drewN | apply below_drew1) | exact HB.out)⟩⟩
      · replace c10 := Bool.eq_false_iff.mpr c10
        subst c10
        have H1 : (remontoirlaw02_SpanCalendar.j0 k a0 a2 t160 (⟨#[77]⟩ : ByteArray)) = some r := by rw [if_neg (show ¬ (false = true) by decide)] at H; exact H
        clear H
        have H := H1
        clear H1
        have H' := Aside0.mk H
        clear H
        go_wp2
        go_meet
        case rel => exact ⟨_, ((⟨#[77]⟩ : ByteArray)), (by first | rfl | (simp; done) | (simp [*]; done)), H', ⟨by first | omega | exact Nat.le_refl _⟩, ⟨by repeat (first | (with_reducible first | exact HB.out | apply below_alloc | apply pw_below_drewN | apply below_drew1) | exact HB.out)⟩⟩
    case rest =>
      clear HC8
      try clear c1
      try clear p2
      try clear c4
      try clear c4b0
      try clear c4b1
      try clear c8
      try clear c9
      try clear c10
      obtain ⟨kq, x8_7, rfl, HA, HJ7, HB⟩ := hcut
      cases kq with
      | zero => exact absurd HA.out (by simp [remontoirlaw02_SpanCalendar.j0])
      | succ kj7 =>
        have H := HA.out
        clear HA
        simp only [remontoirlaw02_SpanCalendar.j0] at H
        by_cases c11 : 1 + t160.size ≤ 9223372036854775807
        · rw [if_pos c11] at H
          have c11b0 := eq_true c11
          have c11b1 : decide (1 + t160.size ≤ 9223372036854775807) = true := decide_eq_true c11
          try have c11b2 : (9223372036854775807 < 1 + t160.size) = False := eq_false (Nat.not_lt.2 c11)
          by_cases c12 : ((⟨#[80]⟩ : ByteArray) ++ t160).size + x8_7.size ≤ 9223372036854775807
          · rw [if_pos c12] at H
            have c12b0 := eq_true c12
            have c12b1 : decide (((⟨#[80]⟩ : ByteArray) ++ t160).size + x8_7.size ≤ 9223372036854775807) = true := decide_eq_true c12
            have c12z := c12
            try simp only [ByteArray.size_append, szlit, List.size_toArray, List.length_cons, List.length_nil, Nat.zero_add, Nat.reduceAdd] at c12z
            try have c12b2 : (9223372036854775807 < ((⟨#[80]⟩ : ByteArray) ++ t160).size + x8_7.size) = False := eq_false (Nat.not_lt.2 c12)
            by_cases c13 : (((⟨#[80]⟩ : ByteArray) ++ t160) ++ x8_7).size + a2.size ≤ 9223372036854775807
            · rw [if_pos c13] at H
              have c13b0 := eq_true c13
              have c13b1 : decide ((((⟨#[80]⟩ : ByteArray) ++ t160) ++ x8_7).size + a2.size ≤ 9223372036854775807) = true := decide_eq_true c13
              have c13z := c13
              try simp only [ByteArray.size_append, szlit, List.size_toArray, List.length_cons, List.length_nil, Nat.zero_add, Nat.reduceAdd] at c13z
              try have c13b2 : (9223372036854775807 < (((⟨#[80]⟩ : ByteArray) ++ t160) ++ x8_7).size + a2.size) = False := eq_false (Nat.not_lt.2 c13)
              replace H := Option.bind_eq_some_iff.mp H
              obtain ⟨⟨t161, t162⟩, A140, H⟩ := H
              replace H : (if ((⟨#[112]⟩ : ByteArray) ++ t160).size + 1 ≤ 9223372036854775807 then ((span_Parse.f (((⟨#[112]⟩ : ByteArray) ++ t160) ++ (⟨#[87]⟩ : ByteArray))).bind fun bt163 => (if 2 + t160.size ≤ 9223372036854775807 then (if ((⟨#[80, 48]⟩ : ByteArray) ++ t160).size + 1 ≤ 9223372036854775807 then ((span_Parse.f (((⟨#[80, 48]⟩ : ByteArray) ++ t160) ++ (⟨#[87]⟩ : ByteArray))).bind fun bt165 => (if ((⟨#[80]⟩ : ByteArray) ++ t160).size + 1 ≤ 9223372036854775807 then ((span_Parse.f (((⟨#[80]⟩ : ByteArray) ++ t160) ++ (⟨#[87]⟩ : ByteArray))).bind fun bt167 => (if t161 = 0 then (if t162 = 4 then (if bt163.2 = 2 then (if bt165.2 = 2 then (if bt167.2 = 0 then (if bt167.1 = (IntKind.u64.wrap ((IntKind.u64.wrap (a0)) * 604800)) then ((remontoirlaw02_wakes.f).bind fun t169 => (some t169)) else (if bt167.2 = 3 then (if (IntKind.u64.wrap ((IntKind.u64.wrap (a0)) * 604800)) > 1125899906842624 then ((remontoirlaw02_wakes.f).bind fun t170 => (some t170)) else (some false)) else (some false))) else (if bt167.2 = 3 then (if (IntKind.u64.wrap ((IntKind.u64.wrap (a0)) * 604800)) > 1125899906842624 then ((remontoirlaw02_wakes.f).bind fun t171 => (some t171)) else (some false)) else (some false))) else (some false)) else (some false)) else (some false)) else (some false))) else (none))) else (none)) else (none))) else (none)) = some r := H
              have A14 := Aside0.mk A140
              clear A140
              by_cases c15 : ((⟨#[112]⟩ : ByteArray) ++ t160).size + 1 ≤ 9223372036854775807
              · rw [if_pos c15] at H
                have c15b0 := eq_true c15
                have c15b1 : decide (((⟨#[112]⟩ : ByteArray) ++ t160).size + 1 ≤ 9223372036854775807) = true := decide_eq_true c15
                have c15z := c15
                try simp only [ByteArray.size_append, szlit, List.size_toArray, List.length_cons, List.length_nil, Nat.zero_add, Nat.reduceAdd] at c15z
                try have c15b2 : (9223372036854775807 < ((⟨#[112]⟩ : ByteArray) ++ t160).size + 1) = False := eq_false (Nat.not_lt.2 c15)
                replace H := Option.bind_eq_some_iff.mp H
                obtain ⟨⟨t163, t164⟩, A160, H⟩ := H
                replace H : (if 2 + t160.size ≤ 9223372036854775807 then (if ((⟨#[80, 48]⟩ : ByteArray) ++ t160).size + 1 ≤ 9223372036854775807 then ((span_Parse.f (((⟨#[80, 48]⟩ : ByteArray) ++ t160) ++ (⟨#[87]⟩ : ByteArray))).bind fun bt165 => (if ((⟨#[80]⟩ : ByteArray) ++ t160).size + 1 ≤ 9223372036854775807 then ((span_Parse.f (((⟨#[80]⟩ : ByteArray) ++ t160) ++ (⟨#[87]⟩ : ByteArray))).bind fun bt167 => (if t161 = 0 then (if t162 = 4 then (if t164 = 2 then (if bt165.2 = 2 then (if bt167.2 = 0 then (if bt167.1 = (IntKind.u64.wrap ((IntKind.u64.wrap (a0)) * 604800)) then ((remontoirlaw02_wakes.f).bind fun t169 => (some t169)) else (if bt167.2 = 3 then (if (IntKind.u64.wrap ((IntKind.u64.wrap (a0)) * 604800)) > 1125899906842624 then ((remontoirlaw02_wakes.f).bind fun t170 => (some t170)) else (some false)) else (some false))) else (if bt167.2 = 3 then (if (IntKind.u64.wrap ((IntKind.u64.wrap (a0)) * 604800)) > 1125899906842624 then ((remontoirlaw02_wakes.f).bind fun t171 => (some t171)) else (some false)) else (some false))) else (some false)) else (some false)) else (some false)) else (some false))) else (none))) else (none)) else (none)) = some r := H
                have A16 := Aside0.mk A160
                clear A160
                by_cases c17 : 2 + t160.size ≤ 9223372036854775807
                · rw [if_pos c17] at H
                  have c17b0 := eq_true c17
                  have c17b1 : decide (2 + t160.size ≤ 9223372036854775807) = true := decide_eq_true c17
                  try have c17b2 : (9223372036854775807 < 2 + t160.size) = False := eq_false (Nat.not_lt.2 c17)
                  by_cases c18 : ((⟨#[80, 48]⟩ : ByteArray) ++ t160).size + 1 ≤ 9223372036854775807
                  · rw [if_pos c18] at H
                    have c18b0 := eq_true c18
                    have c18b1 : decide (((⟨#[80, 48]⟩ : ByteArray) ++ t160).size + 1 ≤ 9223372036854775807) = true := decide_eq_true c18
                    have c18z := c18
                    try simp only [ByteArray.size_append, szlit, List.size_toArray, List.length_cons, List.length_nil, Nat.zero_add, Nat.reduceAdd] at c18z
                    try have c18b2 : (9223372036854775807 < ((⟨#[80, 48]⟩ : ByteArray) ++ t160).size + 1) = False := eq_false (Nat.not_lt.2 c18)
                    replace H := Option.bind_eq_some_iff.mp H
                    obtain ⟨⟨t165, t166⟩, A190, H⟩ := H
                    replace H : (if ((⟨#[80]⟩ : ByteArray) ++ t160).size + 1 ≤ 9223372036854775807 then ((span_Parse.f (((⟨#[80]⟩ : ByteArray) ++ t160) ++ (⟨#[87]⟩ : ByteArray))).bind fun bt167 => (if t161 = 0 then (if t162 = 4 then (if t164 = 2 then (if t166 = 2 then (if bt167.2 = 0 then (if bt167.1 = (IntKind.u64.wrap ((IntKind.u64.wrap (a0)) * 604800)) then ((remontoirlaw02_wakes.f).bind fun t169 => (some t169)) else (if bt167.2 = 3 then (if (IntKind.u64.wrap ((IntKind.u64.wrap (a0)) * 604800)) > 1125899906842624 then ((remontoirlaw02_wakes.f).bind fun t170 => (some t170)) else (some false)) else (some false))) else (if bt167.2 = 3 then (if (IntKind.u64.wrap ((IntKind.u64.wrap (a0)) * 604800)) > 1125899906842624 then ((remontoirlaw02_wakes.f).bind fun t171 => (some t171)) else (some false)) else (some false))) else (some false)) else (some false)) else (some false)) else (some false))) else (none)) = some r := H
                    have A19 := Aside0.mk A190
                    clear A190
                    by_cases c20 : ((⟨#[80]⟩ : ByteArray) ++ t160).size + 1 ≤ 9223372036854775807
                    · rw [if_pos c20] at H
                      have c20b0 := eq_true c20
                      have c20b1 : decide (((⟨#[80]⟩ : ByteArray) ++ t160).size + 1 ≤ 9223372036854775807) = true := decide_eq_true c20
                      have c20z := c20
                      try simp only [ByteArray.size_append, szlit, List.size_toArray, List.length_cons, List.length_nil, Nat.zero_add, Nat.reduceAdd] at c20z
                      try have c20b2 : (9223372036854775807 < ((⟨#[80]⟩ : ByteArray) ++ t160).size + 1) = False := eq_false (Nat.not_lt.2 c20)
                      replace H := Option.bind_eq_some_iff.mp H
                      obtain ⟨⟨t167, t168⟩, A210, H⟩ := H
                      replace H : (if t161 = 0 then (if t162 = 4 then (if t164 = 2 then (if t166 = 2 then (if t168 = 0 then (if t167 = (IntKind.u64.wrap ((IntKind.u64.wrap (a0)) * 604800)) then ((remontoirlaw02_wakes.f).bind fun t169 => (some t169)) else (if t168 = 3 then (if (IntKind.u64.wrap ((IntKind.u64.wrap (a0)) * 604800)) > 1125899906842624 then ((remontoirlaw02_wakes.f).bind fun t170 => (some t170)) else (some false)) else (some false))) else (if t168 = 3 then (if (IntKind.u64.wrap ((IntKind.u64.wrap (a0)) * 604800)) > 1125899906842624 then ((remontoirlaw02_wakes.f).bind fun t171 => (some t171)) else (some false)) else (some false))) else (some false)) else (some false)) else (some false)) else (some false)) = some r := H
                      have A21 := Aside0.mk A210
                      clear A210
                      by_cases c22 : t161 = 0
                      · rw [if_pos c22] at H
                        have c22b0 : (t161 == 0) = true := beq_iff_eq.mpr c22
                        have c22b1 : (t161 != 0) = false := bne_eq_false_iff_eq.mpr c22
                        clear c22
                        by_cases c23 : t162 = 4
                        · rw [if_pos c23] at H
                          have c23b0 : (t162 == 4) = true := beq_iff_eq.mpr c23
                          have c23b1 : (t162 != 4) = false := bne_eq_false_iff_eq.mpr c23
                          clear c23
                          by_cases c24 : t164 = 2
                          · rw [if_pos c24] at H
                            have c24b0 : (t164 == 2) = true := beq_iff_eq.mpr c24
                            have c24b1 : (t164 != 2) = false := bne_eq_false_iff_eq.mpr c24
                            clear c24
                            by_cases c25 : t166 = 2
                            · rw [if_pos c25] at H
                              have c25b0 : (t166 == 2) = true := beq_iff_eq.mpr c25
                              have c25b1 : (t166 != 2) = false := bne_eq_false_iff_eq.mpr c25
                              clear c25
                              by_cases c26 : t168 = 0
                              · rw [if_pos c26] at H
                                have c26b0 : (t168 == 0) = true := beq_iff_eq.mpr c26
                                have c26b1 : (t168 != 0) = false := bne_eq_false_iff_eq.mpr c26
                                clear c26
                                by_cases c27 : t167 = (IntKind.u64.wrap ((IntKind.u64.wrap (a0)) * 604800))
                                · rw [if_pos c27] at H
                                  have c27b0 : (t167 == (IntKind.u64.wrap ((IntKind.u64.wrap (a0)) * 604800))) = true := beq_iff_eq.mpr c27
                                  have c27b1 : (t167 != (IntKind.u64.wrap ((IntKind.u64.wrap (a0)) * 604800))) = false := bne_eq_false_iff_eq.mpr c27
                                  clear c27
                                  replace H := Option.bind_eq_some_iff.mp H
                                  obtain ⟨t169, A280, H⟩ := H
                                  replace H : (some t169) = some r := H
                                  have A28 := Aside0.mk A280
                                  clear A280
                                  obtain rfl := Option.some.inj H
                                  go_wp2_with (first | ((with_reducible refine gate_callee (f := 10) rfl ?_); refine goesL_ (some 32) rfl rfl Tryd.func10 (by kernel_rfl) rfl #[.string ((((⟨#[80]⟩ : ByteArray) ++ t160) ++ x8_7) ++ a2)] rfl (by (try simp only [List.map_toArray, List.map_cons, List.map_nil]); first | done | rfl | (simp only [List.length_drop, List.length_take]; rfl)) ?_; (with_reducible refine (span_Parse.calls ((((⟨#[80]⟩ : ByteArray) ++ t160) ++ x8_7) ++ a2) t161 t162 _ A14.out).mono ?_); rintro e w29 ⟨rfl, hb⟩; refine ⟨_, rfl, ?_⟩; have n0_ := Aside0.mk (below_step (by repeat (first | (with_reducible first | exact HB.out | apply below_alloc | apply pw_below_drewN | apply below_drew1) | exact HB.out)) hb); clear HB; have HB := n0_; clear n0_; (try clear hb); (try clear hb2); (try clear hk); (try clear hi)) | ((with_reducible refine gate_callee (f := 10) rfl ?_); refine goesL_ (some 39) rfl rfl Tryd.func10 (by kernel_rfl) rfl #[.string (((⟨#[112]⟩ : ByteArray) ++ t160) ++ (⟨#[87]⟩ : ByteArray))] rfl (by (try simp only [List.map_toArray, List.map_cons, List.map_nil]); first | done | rfl | (simp only [List.length_drop, List.length_take]; rfl)) ?_; (with_reducible refine (span_Parse.calls (((⟨#[112]⟩ : ByteArray) ++ t160) ++ (⟨#[87]⟩ : ByteArray)) t163 t164 _ A16.out).mono ?_); rintro e w30 ⟨rfl, hb⟩; refine ⟨_, rfl, ?_⟩; have n0_ := Aside0.mk (below_step (by repeat (first | (with_reducible first | exact HB.out | apply below_alloc | apply pw_below_drewN | apply below_drew1) | exact HB.out)) hb); clear HB; have HB := n0_; clear n0_; (try clear hb); (try clear hb2); (try clear hk); (try clear hi)) | ((with_reducible refine gate_callee (f := 10) rfl ?_); refine goesL_ (some 46) rfl rfl Tryd.func10 (by kernel_rfl) rfl #[.string (((⟨#[80, 48]⟩ : ByteArray) ++ t160) ++ (⟨#[87]⟩ : ByteArray))] rfl (by (try simp only [List.map_toArray, List.map_cons, List.map_nil]); first | done | rfl | (simp only [List.length_drop, List.length_take]; rfl)) ?_; (with_reducible refine (span_Parse.calls (((⟨#[80, 48]⟩ : ByteArray) ++ t160) ++ (⟨#[87]⟩ : ByteArray)) t165 t166 _ A19.out).mono ?_); rintro e w31 ⟨rfl, hb⟩; refine ⟨_, rfl, ?_⟩; have n0_ := Aside0.mk (below_step (by repeat (first | (with_reducible first | exact HB.out | apply below_alloc | apply pw_below_drewN | apply below_drew1) | exact HB.out)) hb); clear HB; have HB := n0_; clear n0_; (try clear hb); (try clear hb2); (try clear hk); (try clear hi)) | ((with_reducible refine gate_callee (f := 10) rfl ?_); refine goesL_ (some 53) rfl rfl Tryd.func10 (by kernel_rfl) rfl #[.string (((⟨#[80]⟩ : ByteArray) ++ t160) ++ (⟨#[87]⟩ : ByteArray))] rfl (by (try simp only [List.map_toArray, List.map_cons, List.map_nil]); first | done | rfl | (simp only [List.length_drop, List.length_take]; rfl)) ?_; (with_reducible refine (span_Parse.calls (((⟨#[80]⟩ : ByteArray) ++ t160) ++ (⟨#[87]⟩ : ByteArray)) t167 t168 _ A21.out).mono ?_); rintro e w32 ⟨rfl, hb⟩; refine ⟨_, rfl, ?_⟩; have n0_ := Aside0.mk (below_step (by repeat (first | (with_reducible first | exact HB.out | apply below_alloc | apply pw_below_drewN | apply below_drew1) | exact HB.out)) hb); clear HB; have HB := n0_; clear n0_; (try clear hb); (try clear hb2); (try clear hk); (try clear hi)) | (go_at_call 9; (with_reducible refine (remontoirlaw02_wakes.calls  t169 _ (Tab.below hTab (by repeat (first | exact HB.out | apply below_alloc | apply pw_below_drewN | apply below_drew1)))  A28.out).mono ?_); rintro e w33 ⟨rfl, hb⟩; have n0_ := Aside0.mk (below_step (by repeat (first | (with_reducible first | exact HB.out | apply below_alloc | apply pw_below_drewN | apply below_drew1) | exact HB.out)) hb); clear HB; have HB := n0_; clear n0_; (try clear hb); (try clear hb2); (try clear hk); (try clear hi)))
                                  go_ret
                                  exact ⟨by first | rfl | (simp [errW_none, errW_some] <;> rfl) | (simp [*, errW_none, errW_some] <;> rfl), by repeat (first | (with_reducible first | exact HB.out | apply below_alloc | apply pw_below_drewN | apply below_drew1) | exact HB.out)⟩
                                · rw [if_neg c27] at H
                                  have c27b0 : (t167 == (IntKind.u64.wrap ((IntKind.u64.wrap (a0)) * 604800))) = false := beq_eq_false_iff_ne.mpr c27
                                  have c27b1 : (t167 != (IntKind.u64.wrap ((IntKind.u64.wrap (a0)) * 604800))) = true := bne_iff_ne.mpr c27
                                  by_cases c34 : t168 = 3
                                  · rw [if_pos c34] at H
                                    have c34b0 : (t168 == 3) = true := beq_iff_eq.mpr c34
                                    have c34b1 : (t168 != 3) = false := bne_eq_false_iff_eq.mpr c34
                                    clear c34
                                    by_cases c35 : (IntKind.u64.wrap ((IntKind.u64.wrap (a0)) * 604800)) > 1125899906842624
                                    · rw [if_pos c35] at H
                                      have c35b0 : decide (1125899906842624 < (IntKind.u64.wrap ((IntKind.u64.wrap (a0)) * 604800))) = true := decide_eq_true c35
                                      clear c35
                                      replace H := Option.bind_eq_some_iff.mp H
                                      obtain ⟨t170, A360, H⟩ := H
                                      replace H : (some t170) = some r := H
                                      have A36 := Aside0.mk A360
                                      clear A360
                                      obtain rfl := Option.some.inj H
                                      go_wp2_with (first | ((with_reducible refine gate_callee (f := 10) rfl ?_); refine goesL_ (some 32) rfl rfl Tryd.func10 (by kernel_rfl) rfl #[.string ((((⟨#[80]⟩ : ByteArray) ++ t160) ++ x8_7) ++ a2)] rfl (by (try simp only [List.map_toArray, List.map_cons, List.map_nil]); first | done | rfl | (simp only [List.length_drop, List.length_take]; rfl)) ?_; (with_reducible refine (span_Parse.calls ((((⟨#[80]⟩ : ByteArray) ++ t160) ++ x8_7) ++ a2) t161 t162 _ A14.out).mono ?_); rintro e w37 ⟨rfl, hb⟩; refine ⟨_, rfl, ?_⟩; have n0_ := Aside0.mk (below_step (by repeat (first | (with_reducible first | exact HB.out | apply below_alloc | apply pw_below_drewN | apply below_drew1) | exact HB.out)) hb); clear HB; have HB := n0_; clear n0_; (try clear hb); (try clear hb2); (try clear hk); (try clear hi)) | ((with_reducible refine gate_callee (f := 10) rfl ?_); refine goesL_ (some 39) rfl rfl Tryd.func10 (by kernel_rfl) rfl #[.string (((⟨#[112]⟩ : ByteArray) ++ t160) ++ (⟨#[87]⟩ : ByteArray))] rfl (by (try simp only [List.map_toArray, List.map_cons, List.map_nil]); first | done | rfl | (simp only [List.length_drop, List.length_take]; rfl)) ?_; (with_reducible refine (span_Parse.calls (((⟨#[112]⟩ : ByteArray) ++ t160) ++ (⟨#[87]⟩ : ByteArray)) t163 t164 _ A16.out).mono ?_); rintro e w38 ⟨rfl, hb⟩; refine ⟨_, rfl, ?_⟩; have n0_ := Aside0.mk (below_step (by repeat (first | (with_reducible first | exact HB.out | apply below_alloc | apply pw_below_drewN | apply below_drew1) | exact HB.out)) hb); clear HB; have HB := n0_; clear n0_; (try clear hb); (try clear hb2); (try clear hk); (try clear hi)) | ((with_reducible refine gate_callee (f := 10) rfl ?_); refine goesL_ (some 46) rfl rfl Tryd.func10 (by kernel_rfl) rfl #[.string (((⟨#[80, 48]⟩ : ByteArray) ++ t160) ++ (⟨#[87]⟩ : ByteArray))] rfl (by (try simp only [List.map_toArray, List.map_cons, List.map_nil]); first | done | rfl | (simp only [List.length_drop, List.length_take]; rfl)) ?_; (with_reducible refine (span_Parse.calls (((⟨#[80, 48]⟩ : ByteArray) ++ t160) ++ (⟨#[87]⟩ : ByteArray)) t165 t166 _ A19.out).mono ?_); rintro e w39 ⟨rfl, hb⟩; refine ⟨_, rfl, ?_⟩; have n0_ := Aside0.mk (below_step (by repeat (first | (with_reducible first | exact HB.out | apply below_alloc | apply pw_below_drewN | apply below_drew1) | exact HB.out)) hb); clear HB; have HB := n0_; clear n0_; (try clear hb); (try clear hb2); (try clear hk); (try clear hi)) | ((with_reducible refine gate_callee (f := 10) rfl ?_); refine goesL_ (some 53) rfl rfl Tryd.func10 (by kernel_rfl) rfl #[.string (((⟨#[80]⟩ : ByteArray) ++ t160) ++ (⟨#[87]⟩ : ByteArray))] rfl (by (try simp only [List.map_toArray, List.map_cons, List.map_nil]); first | done | rfl | (simp only [List.length_drop, List.length_take]; rfl)) ?_; (with_reducible refine (span_Parse.calls (((⟨#[80]⟩ : ByteArray) ++ t160) ++ (⟨#[87]⟩ : ByteArray)) t167 t168 _ A21.out).mono ?_); rintro e w40 ⟨rfl, hb⟩; refine ⟨_, rfl, ?_⟩; have n0_ := Aside0.mk (below_step (by repeat (first | (with_reducible first | exact HB.out | apply below_alloc | apply pw_below_drewN | apply below_drew1) | exact HB.out)) hb); clear HB; have HB := n0_; clear n0_; (try clear hb); (try clear hb2); (try clear hk); (try clear hi)) | (go_at_call 9; (with_reducible refine (remontoirlaw02_wakes.calls  t170 _ (Tab.below hTab (by repeat (first | exact HB.out | apply below_alloc | apply pw_below_drewN | apply below_drew1)))  A36.out).mono ?_); rintro e w41 ⟨rfl, hb⟩; have n0_ := Aside0.mk (below_step (by repeat (first | (with_reducible first | exact HB.out | apply below_alloc | apply pw_below_drewN | apply below_drew1) | exact HB.out)) hb); clear HB; have HB := n0_; clear n0_; (try clear hb); (try clear hb2); (try clear hk); (try clear hi)))
                                      go_ret
                                      exact ⟨by first | rfl | (simp [errW_none, errW_some] <;> rfl) | (simp [*, errW_none, errW_some] <;> rfl), by repeat (first | (with_reducible first | exact HB.out | apply below_alloc | apply pw_below_drewN | apply below_drew1) | exact HB.out)⟩
                                    · rw [if_neg c35] at H
                                      have c35b0 : decide (1125899906842624 < (IntKind.u64.wrap ((IntKind.u64.wrap (a0)) * 604800))) = false := decide_eq_false c35
                                      clear c35
                                      obtain rfl := Option.some.inj H
                                      go_wp2_with (first | ((with_reducible refine gate_callee (f := 10) rfl ?_); refine goesL_ (some 32) rfl rfl Tryd.func10 (by kernel_rfl) rfl #[.string ((((⟨#[80]⟩ : ByteArray) ++ t160) ++ x8_7) ++ a2)] rfl (by (try simp only [List.map_toArray, List.map_cons, List.map_nil]); first | done | rfl | (simp only [List.length_drop, List.length_take]; rfl)) ?_; (with_reducible refine (span_Parse.calls ((((⟨#[80]⟩ : ByteArray) ++ t160) ++ x8_7) ++ a2) t161 t162 _ A14.out).mono ?_); rintro e w42 ⟨rfl, hb⟩; refine ⟨_, rfl, ?_⟩; have n0_ := Aside0.mk (below_step (by repeat (first | (with_reducible first | exact HB.out | apply below_alloc | apply pw_below_drewN | apply below_drew1) | exact HB.out)) hb); clear HB; have HB := n0_; clear n0_; (try clear hb); (try clear hb2); (try clear hk); (try clear hi)) | ((with_reducible refine gate_callee (f := 10) rfl ?_); refine goesL_ (some 39) rfl rfl Tryd.func10 (by kernel_rfl) rfl #[.string (((⟨#[112]⟩ : ByteArray) ++ t160) ++ (⟨#[87]⟩ : ByteArray))] rfl (by (try simp only [List.map_toArray, List.map_cons, List.map_nil]); first | done | rfl | (simp only [List.length_drop, List.length_take]; rfl)) ?_; (with_reducible refine (span_Parse.calls (((⟨#[112]⟩ : ByteArray) ++ t160) ++ (⟨#[87]⟩ : ByteArray)) t163 t164 _ A16.out).mono ?_); rintro e w43 ⟨rfl, hb⟩; refine ⟨_, rfl, ?_⟩; have n0_ := Aside0.mk (below_step (by repeat (first | (with_reducible first | exact HB.out | apply below_alloc | apply pw_below_drewN | apply below_drew1) | exact HB.out)) hb); clear HB; have HB := n0_; clear n0_; (try clear hb); (try clear hb2); (try clear hk); (try clear hi)) | ((with_reducible refine gate_callee (f := 10) rfl ?_); refine goesL_ (some 46) rfl rfl Tryd.func10 (by kernel_rfl) rfl #[.string (((⟨#[80, 48]⟩ : ByteArray) ++ t160) ++ (⟨#[87]⟩ : ByteArray))] rfl (by (try simp only [List.map_toArray, List.map_cons, List.map_nil]); first | done | rfl | (simp only [List.length_drop, List.length_take]; rfl)) ?_; (with_reducible refine (span_Parse.calls (((⟨#[80, 48]⟩ : ByteArray) ++ t160) ++ (⟨#[87]⟩ : ByteArray)) t165 t166 _ A19.out).mono ?_); rintro e w44 ⟨rfl, hb⟩; refine ⟨_, rfl, ?_⟩; have n0_ := Aside0.mk (below_step (by repeat (first | (with_reducible first | exact HB.out | apply below_alloc | apply pw_below_drewN | apply below_drew1) | exact HB.out)) hb); clear HB; have HB := n0_; clear n0_; (try clear hb); (try clear hb2); (try clear hk); (try clear hi)) | ((with_reducible refine gate_callee (f := 10) rfl ?_); refine goesL_ (some 53) rfl rfl Tryd.func10 (by kernel_rfl) rfl #[.string (((⟨#[80]⟩ : ByteArray) ++ t160) ++ (⟨#[87]⟩ : ByteArray))] rfl (by (try simp only [List.map_toArray, List.map_cons, List.map_nil]); first | done | rfl | (simp only [List.length_drop, List.length_take]; rfl)) ?_; (with_reducible refine (span_Parse.calls (((⟨#[80]⟩ : ByteArray) ++ t160) ++ (⟨#[87]⟩ : ByteArray)) t167 t168 _ A21.out).mono ?_); rintro e w45 ⟨rfl, hb⟩; refine ⟨_, rfl, ?_⟩; have n0_ := Aside0.mk (below_step (by repeat (first | (with_reducible first | exact HB.out | apply below_alloc | apply pw_below_drewN | apply below_drew1) | exact HB.out)) hb); clear HB; have HB := n0_; clear n0_; (try clear hb); (try clear hb2); (try clear hk); (try clear hi)))
                                      go_ret
                                      exact ⟨by first | rfl | (simp [errW_none, errW_some] <;> rfl) | (simp [*, errW_none, errW_some] <;> rfl), by repeat (first | (with_reducible first | exact HB.out | apply below_alloc | apply pw_below_drewN | apply below_drew1) | exact HB.out)⟩
                                  · rw [if_neg c34] at H
                                    have c34b0 : (t168 == 3) = false := beq_eq_false_iff_ne.mpr c34
                                    have c34b1 : (t168 != 3) = true := bne_iff_ne.mpr c34
                                    obtain rfl := Option.some.inj H
                                    go_wp2_with (first | ((with_reducible refine gate_callee (f := 10) rfl ?_); refine goesL_ (some 32) rfl rfl Tryd.func10 (by kernel_rfl) rfl #[.string ((((⟨#[80]⟩ : ByteArray) ++ t160) ++ x8_7) ++ a2)] rfl (by (try simp only [List.map_toArray, List.map_cons, List.map_nil]); first | done | rfl | (simp only [List.length_drop, List.length_take]; rfl)) ?_; (with_reducible refine (span_Parse.calls ((((⟨#[80]⟩ : ByteArray) ++ t160) ++ x8_7) ++ a2) t161 t162 _ A14.out).mono ?_); rintro e w46 ⟨rfl, hb⟩; refine ⟨_, rfl, ?_⟩; have n0_ := Aside0.mk (below_step (by repeat (first | (with_reducible first | exact HB.out | apply below_alloc | apply pw_below_drewN | apply below_drew1) | exact HB.out)) hb); clear HB; have HB := n0_; clear n0_; (try clear hb); (try clear hb2); (try clear hk); (try clear hi)) | ((with_reducible refine gate_callee (f := 10) rfl ?_); refine goesL_ (some 39) rfl rfl Tryd.func10 (by kernel_rfl) rfl #[.string (((⟨#[112]⟩ : ByteArray) ++ t160) ++ (⟨#[87]⟩ : ByteArray))] rfl (by (try simp only [List.map_toArray, List.map_cons, List.map_nil]); first | done | rfl | (simp only [List.length_drop, List.length_take]; rfl)) ?_; (with_reducible refine (span_Parse.calls (((⟨#[112]⟩ : ByteArray) ++ t160) ++ (⟨#[87]⟩ : ByteArray)) t163 t164 _ A16.out).mono ?_); rintro e w47 ⟨rfl, hb⟩; refine ⟨_, rfl, ?_⟩; have n0_ := Aside0.mk (below_step (by repeat (first | (with_reducible first | exact HB.out | apply below_alloc | apply pw_below_drewN | apply below_drew1) | exact HB.out)) hb); clear HB; have HB := n0_; clear n0_; (try clear hb); (try clear hb2); (try clear hk); (try clear hi)) | ((with_reducible refine gate_callee (f := 10) rfl ?_); refine goesL_ (some 46) rfl rfl Tryd.func10 (by kernel_rfl) rfl #[.string (((⟨#[80, 48]⟩ : ByteArray) ++ t160) ++ (⟨#[87]⟩ : ByteArray))] rfl (by (try simp only [List.map_toArray, List.map_cons, List.map_nil]); first | done | rfl | (simp only [List.length_drop, List.length_take]; rfl)) ?_; (with_reducible refine (span_Parse.calls (((⟨#[80, 48]⟩ : ByteArray) ++ t160) ++ (⟨#[87]⟩ : ByteArray)) t165 t166 _ A19.out).mono ?_); rintro e w48 ⟨rfl, hb⟩; refine ⟨_, rfl, ?_⟩; have n0_ := Aside0.mk (below_step (by repeat (first | (with_reducible first | exact HB.out | apply below_alloc | apply pw_below_drewN | apply below_drew1) | exact HB.out)) hb); clear HB; have HB := n0_; clear n0_; (try clear hb); (try clear hb2); (try clear hk); (try clear hi)) | ((with_reducible refine gate_callee (f := 10) rfl ?_); refine goesL_ (some 53) rfl rfl Tryd.func10 (by kernel_rfl) rfl #[.string (((⟨#[80]⟩ : ByteArray) ++ t160) ++ (⟨#[87]⟩ : ByteArray))] rfl (by (try simp only [List.map_toArray, List.map_cons, List.map_nil]); first | done | rfl | (simp only [List.length_drop, List.length_take]; rfl)) ?_; (with_reducible refine (span_Parse.calls (((⟨#[80]⟩ : ByteArray) ++ t160) ++ (⟨#[87]⟩ : ByteArray)) t167 t168 _ A21.out).mono ?_); rintro e w49 ⟨rfl, hb⟩; refine ⟨_, rfl, ?_⟩; have n0_ := Aside0.mk (below_step (by repeat (first | (with_reducible first | exact HB.out | apply below_alloc | apply pw_below_drewN | apply below_drew1) | exact HB.out)) hb); clear HB; have HB := n0_; clear n0_; (try clear hb); (try clear hb2); (try clear hk); (try clear hi)))
                                    go_ret
                                    exact ⟨by first | rfl | (simp [errW_none, errW_some] <;> rfl) | (simp [*, errW_none, errW_some] <;> rfl), by repeat (first | (with_reducible first | exact HB.out | apply below_alloc | apply pw_below_drewN | apply below_drew1) | exact HB.out)⟩
                              · rw [if_neg c26] at H
                                have c26b0 : (t168 == 0) = false := beq_eq_false_iff_ne.mpr c26
                                have c26b1 : (t168 != 0) = true := bne_iff_ne.mpr c26
                                by_cases c50 : t168 = 3
                                · rw [if_pos c50] at H
                                  have c50b0 : (t168 == 3) = true := beq_iff_eq.mpr c50
                                  have c50b1 : (t168 != 3) = false := bne_eq_false_iff_eq.mpr c50
                                  clear c50
                                  by_cases c51 : (IntKind.u64.wrap ((IntKind.u64.wrap (a0)) * 604800)) > 1125899906842624
                                  · rw [if_pos c51] at H
                                    have c51b0 : decide (1125899906842624 < (IntKind.u64.wrap ((IntKind.u64.wrap (a0)) * 604800))) = true := decide_eq_true c51
                                    clear c51
                                    replace H := Option.bind_eq_some_iff.mp H
                                    obtain ⟨t171, A520, H⟩ := H
                                    replace H : (some t171) = some r := H
                                    have A52 := Aside0.mk A520
                                    clear A520
                                    obtain rfl := Option.some.inj H
                                    go_wp2_with (first | ((with_reducible refine gate_callee (f := 10) rfl ?_); refine goesL_ (some 32) rfl rfl Tryd.func10 (by kernel_rfl) rfl #[.string ((((⟨#[80]⟩ : ByteArray) ++ t160) ++ x8_7) ++ a2)] rfl (by (try simp only [List.map_toArray, List.map_cons, List.map_nil]); first | done | rfl | (simp only [List.length_drop, List.length_take]; rfl)) ?_; (with_reducible refine (span_Parse.calls ((((⟨#[80]⟩ : ByteArray) ++ t160) ++ x8_7) ++ a2) t161 t162 _ A14.out).mono ?_); rintro e w53 ⟨rfl, hb⟩; refine ⟨_, rfl, ?_⟩; have n0_ := Aside0.mk (below_step (by repeat (first | (with_reducible first | exact HB.out | apply below_alloc | apply pw_below_drewN | apply below_drew1) | exact HB.out)) hb); clear HB; have HB := n0_; clear n0_; (try clear hb); (try clear hb2); (try clear hk); (try clear hi)) | ((with_reducible refine gate_callee (f := 10) rfl ?_); refine goesL_ (some 39) rfl rfl Tryd.func10 (by kernel_rfl) rfl #[.string (((⟨#[112]⟩ : ByteArray) ++ t160) ++ (⟨#[87]⟩ : ByteArray))] rfl (by (try simp only [List.map_toArray, List.map_cons, List.map_nil]); first | done | rfl | (simp only [List.length_drop, List.length_take]; rfl)) ?_; (with_reducible refine (span_Parse.calls (((⟨#[112]⟩ : ByteArray) ++ t160) ++ (⟨#[87]⟩ : ByteArray)) t163 t164 _ A16.out).mono ?_); rintro e w54 ⟨rfl, hb⟩; refine ⟨_, rfl, ?_⟩; have n0_ := Aside0.mk (below_step (by repeat (first | (with_reducible first | exact HB.out | apply below_alloc | apply pw_below_drewN | apply below_drew1) | exact HB.out)) hb); clear HB; have HB := n0_; clear n0_; (try clear hb); (try clear hb2); (try clear hk); (try clear hi)) | ((with_reducible refine gate_callee (f := 10) rfl ?_); refine goesL_ (some 46) rfl rfl Tryd.func10 (by kernel_rfl) rfl #[.string (((⟨#[80, 48]⟩ : ByteArray) ++ t160) ++ (⟨#[87]⟩ : ByteArray))] rfl (by (try simp only [List.map_toArray, List.map_cons, List.map_nil]); first | done | rfl | (simp only [List.length_drop, List.length_take]; rfl)) ?_; (with_reducible refine (span_Parse.calls (((⟨#[80, 48]⟩ : ByteArray) ++ t160) ++ (⟨#[87]⟩ : ByteArray)) t165 t166 _ A19.out).mono ?_); rintro e w55 ⟨rfl, hb⟩; refine ⟨_, rfl, ?_⟩; have n0_ := Aside0.mk (below_step (by repeat (first | (with_reducible first | exact HB.out | apply below_alloc | apply pw_below_drewN | apply below_drew1) | exact HB.out)) hb); clear HB; have HB := n0_; clear n0_; (try clear hb); (try clear hb2); (try clear hk); (try clear hi)) | ((with_reducible refine gate_callee (f := 10) rfl ?_); refine goesL_ (some 53) rfl rfl Tryd.func10 (by kernel_rfl) rfl #[.string (((⟨#[80]⟩ : ByteArray) ++ t160) ++ (⟨#[87]⟩ : ByteArray))] rfl (by (try simp only [List.map_toArray, List.map_cons, List.map_nil]); first | done | rfl | (simp only [List.length_drop, List.length_take]; rfl)) ?_; (with_reducible refine (span_Parse.calls (((⟨#[80]⟩ : ByteArray) ++ t160) ++ (⟨#[87]⟩ : ByteArray)) t167 t168 _ A21.out).mono ?_); rintro e w56 ⟨rfl, hb⟩; refine ⟨_, rfl, ?_⟩; have n0_ := Aside0.mk (below_step (by repeat (first | (with_reducible first | exact HB.out | apply below_alloc | apply pw_below_drewN | apply below_drew1) | exact HB.out)) hb); clear HB; have HB := n0_; clear n0_; (try clear hb); (try clear hb2); (try clear hk); (try clear hi)) | (go_at_call 9; (with_reducible refine (remontoirlaw02_wakes.calls  t171 _ (Tab.below hTab (by repeat (first | exact HB.out | apply below_alloc | apply pw_below_drewN | apply below_drew1)))  A52.out).mono ?_); rintro e w57 ⟨rfl, hb⟩; have n0_ := Aside0.mk (below_step (by repeat (first | (with_reducible first | exact HB.out | apply below_alloc | apply pw_below_drewN | apply below_drew1) | exact HB.out)) hb); clear HB; have HB := n0_; clear n0_; (try clear hb); (try clear hb2); (try clear hk); (try clear hi)))
                                    go_ret
                                    exact ⟨by first | rfl | (simp [errW_none, errW_some] <;> rfl) | (simp [*, errW_none, errW_some] <;> rfl), by repeat (first | (with_reducible first | exact HB.out | apply below_alloc | apply pw_below_drewN | apply below_drew1) | exact HB.out)⟩
                                  · rw [if_neg c51] at H
                                    have c51b0 : decide (1125899906842624 < (IntKind.u64.wrap ((IntKind.u64.wrap (a0)) * 604800))) = false := decide_eq_false c51
                                    clear c51
                                    obtain rfl := Option.some.inj H
                                    go_wp2_with (first | ((with_reducible refine gate_callee (f := 10) rfl ?_); refine goesL_ (some 32) rfl rfl Tryd.func10 (by kernel_rfl) rfl #[.string ((((⟨#[80]⟩ : ByteArray) ++ t160) ++ x8_7) ++ a2)] rfl (by (try simp only [List.map_toArray, List.map_cons, List.map_nil]); first | done | rfl | (simp only [List.length_drop, List.length_take]; rfl)) ?_; (with_reducible refine (span_Parse.calls ((((⟨#[80]⟩ : ByteArray) ++ t160) ++ x8_7) ++ a2) t161 t162 _ A14.out).mono ?_); rintro e w58 ⟨rfl, hb⟩; refine ⟨_, rfl, ?_⟩; have n0_ := Aside0.mk (below_step (by repeat (first | (with_reducible first | exact HB.out | apply below_alloc | apply pw_below_drewN | apply below_drew1) | exact HB.out)) hb); clear HB; have HB := n0_; clear n0_; (try clear hb); (try clear hb2); (try clear hk); (try clear hi)) | ((with_reducible refine gate_callee (f := 10) rfl ?_); refine goesL_ (some 39) rfl rfl Tryd.func10 (by kernel_rfl) rfl #[.string (((⟨#[112]⟩ : ByteArray) ++ t160) ++ (⟨#[87]⟩ : ByteArray))] rfl (by (try simp only [List.map_toArray, List.map_cons, List.map_nil]); first | done | rfl | (simp only [List.length_drop, List.length_take]; rfl)) ?_; (with_reducible refine (span_Parse.calls (((⟨#[112]⟩ : ByteArray) ++ t160) ++ (⟨#[87]⟩ : ByteArray)) t163 t164 _ A16.out).mono ?_); rintro e w59 ⟨rfl, hb⟩; refine ⟨_, rfl, ?_⟩; have n0_ := Aside0.mk (below_step (by repeat (first | (with_reducible first | exact HB.out | apply below_alloc | apply pw_below_drewN | apply below_drew1) | exact HB.out)) hb); clear HB; have HB := n0_; clear n0_; (try clear hb); (try clear hb2); (try clear hk); (try clear hi)) | ((with_reducible refine gate_callee (f := 10) rfl ?_); refine goesL_ (some 46) rfl rfl Tryd.func10 (by kernel_rfl) rfl #[.string (((⟨#[80, 48]⟩ : ByteArray) ++ t160) ++ (⟨#[87]⟩ : ByteArray))] rfl (by (try simp only [List.map_toArray, List.map_cons, List.map_nil]); first | done | rfl | (simp only [List.length_drop, List.length_take]; rfl)) ?_; (with_reducible refine (span_Parse.calls (((⟨#[80, 48]⟩ : ByteArray) ++ t160) ++ (⟨#[87]⟩ : ByteArray)) t165 t166 _ A19.out).mono ?_); rintro e w60 ⟨rfl, hb⟩; refine ⟨_, rfl, ?_⟩; have n0_ := Aside0.mk (below_step (by repeat (first | (with_reducible first | exact HB.out | apply below_alloc | apply pw_below_drewN | apply below_drew1) | exact HB.out)) hb); clear HB; have HB := n0_; clear n0_; (try clear hb); (try clear hb2); (try clear hk); (try clear hi)) | ((with_reducible refine gate_callee (f := 10) rfl ?_); refine goesL_ (some 53) rfl rfl Tryd.func10 (by kernel_rfl) rfl #[.string (((⟨#[80]⟩ : ByteArray) ++ t160) ++ (⟨#[87]⟩ : ByteArray))] rfl (by (try simp only [List.map_toArray, List.map_cons, List.map_nil]); first | done | rfl | (simp only [List.length_drop, List.length_take]; rfl)) ?_; (with_reducible refine (span_Parse.calls (((⟨#[80]⟩ : ByteArray) ++ t160) ++ (⟨#[87]⟩ : ByteArray)) t167 t168 _ A21.out).mono ?_); rintro e w61 ⟨rfl, hb⟩; refine ⟨_, rfl, ?_⟩; have n0_ := Aside0.mk (below_step (by repeat (first | (with_reducible first | exact HB.out | apply below_alloc | apply pw_below_drewN | apply below_drew1) | exact HB.out)) hb); clear HB; have HB := n0_; clear n0_; (try clear hb); (try clear hb2); (try clear hk); (try clear hi)))
                                    go_ret
                                    exact ⟨by first | rfl | (simp [errW_none, errW_some] <;> rfl) | (simp [*, errW_none, errW_some] <;> rfl), by repeat (first | (with_reducible first | exact HB.out | apply below_alloc | apply pw_below_drewN | apply below_drew1) | exact HB.out)⟩
                                · rw [if_neg c50] at H
                                  have c50b0 : (t168 == 3) = false := beq_eq_false_iff_ne.mpr c50
                                  have c50b1 : (t168 != 3) = true := bne_iff_ne.mpr c50
                                  obtain rfl := Option.some.inj H
                                  go_wp2_with (first | ((with_reducible refine gate_callee (f := 10) rfl ?_); refine goesL_ (some 32) rfl rfl Tryd.func10 (by kernel_rfl) rfl #[.string ((((⟨#[80]⟩ : ByteArray) ++ t160) ++ x8_7) ++ a2)] rfl (by (try simp only [List.map_toArray, List.map_cons, List.map_nil]); first | done | rfl | (simp only [List.length_drop, List.length_take]; rfl)) ?_; (with_reducible refine (span_Parse.calls ((((⟨#[80]⟩ : ByteArray) ++ t160) ++ x8_7) ++ a2) t161 t162 _ A14.out).mono ?_); rintro e w62 ⟨rfl, hb⟩; refine ⟨_, rfl, ?_⟩; have n0_ := Aside0.mk (below_step (by repeat (first | (with_reducible first | exact HB.out | apply below_alloc | apply pw_below_drewN | apply below_drew1) | exact HB.out)) hb); clear HB; have HB := n0_; clear n0_; (try clear hb); (try clear hb2); (try clear hk); (try clear hi)) | ((with_reducible refine gate_callee (f := 10) rfl ?_); refine goesL_ (some 39) rfl rfl Tryd.func10 (by kernel_rfl) rfl #[.string (((⟨#[112]⟩ : ByteArray) ++ t160) ++ (⟨#[87]⟩ : ByteArray))] rfl (by (try simp only [List.map_toArray, List.map_cons, List.map_nil]); first | done | rfl | (simp only [List.length_drop, List.length_take]; rfl)) ?_; (with_reducible refine (span_Parse.calls (((⟨#[112]⟩ : ByteArray) ++ t160) ++ (⟨#[87]⟩ : ByteArray)) t163 t164 _ A16.out).mono ?_); rintro e w63 ⟨rfl, hb⟩; refine ⟨_, rfl, ?_⟩; have n0_ := Aside0.mk (below_step (by repeat (first | (with_reducible first | exact HB.out | apply below_alloc | apply pw_below_drewN | apply below_drew1) | exact HB.out)) hb); clear HB; have HB := n0_; clear n0_; (try clear hb); (try clear hb2); (try clear hk); (try clear hi)) | ((with_reducible refine gate_callee (f := 10) rfl ?_); refine goesL_ (some 46) rfl rfl Tryd.func10 (by kernel_rfl) rfl #[.string (((⟨#[80, 48]⟩ : ByteArray) ++ t160) ++ (⟨#[87]⟩ : ByteArray))] rfl (by (try simp only [List.map_toArray, List.map_cons, List.map_nil]); first | done | rfl | (simp only [List.length_drop, List.length_take]; rfl)) ?_; (with_reducible refine (span_Parse.calls (((⟨#[80, 48]⟩ : ByteArray) ++ t160) ++ (⟨#[87]⟩ : ByteArray)) t165 t166 _ A19.out).mono ?_); rintro e w64 ⟨rfl, hb⟩; refine ⟨_, rfl, ?_⟩; have n0_ := Aside0.mk (below_step (by repeat (first | (with_reducible first | exact HB.out | apply below_alloc | apply pw_below_drewN | apply below_drew1) | exact HB.out)) hb); clear HB; have HB := n0_; clear n0_; (try clear hb); (try clear hb2); (try clear hk); (try clear hi)) | ((with_reducible refine gate_callee (f := 10) rfl ?_); refine goesL_ (some 53) rfl rfl Tryd.func10 (by kernel_rfl) rfl #[.string (((⟨#[80]⟩ : ByteArray) ++ t160) ++ (⟨#[87]⟩ : ByteArray))] rfl (by (try simp only [List.map_toArray, List.map_cons, List.map_nil]); first | done | rfl | (simp only [List.length_drop, List.length_take]; rfl)) ?_; (with_reducible refine (span_Parse.calls (((⟨#[80]⟩ : ByteArray) ++ t160) ++ (⟨#[87]⟩ : ByteArray)) t167 t168 _ A21.out).mono ?_); rintro e w65 ⟨rfl, hb⟩; refine ⟨_, rfl, ?_⟩; have n0_ := Aside0.mk (below_step (by repeat (first | (with_reducible first | exact HB.out | apply below_alloc | apply pw_below_drewN | apply below_drew1) | exact HB.out)) hb); clear HB; have HB := n0_; clear n0_; (try clear hb); (try clear hb2); (try clear hk); (try clear hi)))
                                  go_ret
                                  exact ⟨by first | rfl | (simp [errW_none, errW_some] <;> rfl) | (simp [*, errW_none, errW_some] <;> rfl), by repeat (first | (with_reducible first | exact HB.out | apply below_alloc | apply pw_below_drewN | apply below_drew1) | exact HB.out)⟩
                            · rw [if_neg c25] at H
                              have c25b0 : (t166 == 2) = false := beq_eq_false_iff_ne.mpr c25
                              have c25b1 : (t166 != 2) = true := bne_iff_ne.mpr c25
                              obtain rfl := Option.some.inj H
                              go_wp2_with (first | ((with_reducible refine gate_callee (f := 10) rfl ?_); refine goesL_ (some 32) rfl rfl Tryd.func10 (by kernel_rfl) rfl #[.string ((((⟨#[80]⟩ : ByteArray) ++ t160) ++ x8_7) ++ a2)] rfl (by (try simp only [List.map_toArray, List.map_cons, List.map_nil]); first | done | rfl | (simp only [List.length_drop, List.length_take]; rfl)) ?_; (with_reducible refine (span_Parse.calls ((((⟨#[80]⟩ : ByteArray) ++ t160) ++ x8_7) ++ a2) t161 t162 _ A14.out).mono ?_); rintro e w66 ⟨rfl, hb⟩; refine ⟨_, rfl, ?_⟩; have n0_ := Aside0.mk (below_step (by repeat (first | (with_reducible first | exact HB.out | apply below_alloc | apply pw_below_drewN | apply below_drew1) | exact HB.out)) hb); clear HB; have HB := n0_; clear n0_; (try clear hb); (try clear hb2); (try clear hk); (try clear hi)) | ((with_reducible refine gate_callee (f := 10) rfl ?_); refine goesL_ (some 39) rfl rfl Tryd.func10 (by kernel_rfl) rfl #[.string (((⟨#[112]⟩ : ByteArray) ++ t160) ++ (⟨#[87]⟩ : ByteArray))] rfl (by (try simp only [List.map_toArray, List.map_cons, List.map_nil]); first | done | rfl | (simp only [List.length_drop, List.length_take]; rfl)) ?_; (with_reducible refine (span_Parse.calls (((⟨#[112]⟩ : ByteArray) ++ t160) ++ (⟨#[87]⟩ : ByteArray)) t163 t164 _ A16.out).mono ?_); rintro e w67 ⟨rfl, hb⟩; refine ⟨_, rfl, ?_⟩; have n0_ := Aside0.mk (below_step (by repeat (first | (with_reducible first | exact HB.out | apply below_alloc | apply pw_below_drewN | apply below_drew1) | exact HB.out)) hb); clear HB; have HB := n0_; clear n0_; (try clear hb); (try clear hb2); (try clear hk); (try clear hi)) | ((with_reducible refine gate_callee (f := 10) rfl ?_); refine goesL_ (some 46) rfl rfl Tryd.func10 (by kernel_rfl) rfl #[.string (((⟨#[80, 48]⟩ : ByteArray) ++ t160) ++ (⟨#[87]⟩ : ByteArray))] rfl (by (try simp only [List.map_toArray, List.map_cons, List.map_nil]); first | done | rfl | (simp only [List.length_drop, List.length_take]; rfl)) ?_; (with_reducible refine (span_Parse.calls (((⟨#[80, 48]⟩ : ByteArray) ++ t160) ++ (⟨#[87]⟩ : ByteArray)) t165 t166 _ A19.out).mono ?_); rintro e w68 ⟨rfl, hb⟩; refine ⟨_, rfl, ?_⟩; have n0_ := Aside0.mk (below_step (by repeat (first | (with_reducible first | exact HB.out | apply below_alloc | apply pw_below_drewN | apply below_drew1) | exact HB.out)) hb); clear HB; have HB := n0_; clear n0_; (try clear hb); (try clear hb2); (try clear hk); (try clear hi)) | ((with_reducible refine gate_callee (f := 10) rfl ?_); refine goesL_ (some 53) rfl rfl Tryd.func10 (by kernel_rfl) rfl #[.string (((⟨#[80]⟩ : ByteArray) ++ t160) ++ (⟨#[87]⟩ : ByteArray))] rfl (by (try simp only [List.map_toArray, List.map_cons, List.map_nil]); first | done | rfl | (simp only [List.length_drop, List.length_take]; rfl)) ?_; (with_reducible refine (span_Parse.calls (((⟨#[80]⟩ : ByteArray) ++ t160) ++ (⟨#[87]⟩ : ByteArray)) t167 t168 _ A21.out).mono ?_); rintro e w69 ⟨rfl, hb⟩; refine ⟨_, rfl, ?_⟩; have n0_ := Aside0.mk (below_step (by repeat (first | (with_reducible first | exact HB.out | apply below_alloc | apply pw_below_drewN | apply below_drew1) | exact HB.out)) hb); clear HB; have HB := n0_; clear n0_; (try clear hb); (try clear hb2); (try clear hk); (try clear hi)))
                              go_ret
                              exact ⟨by first | rfl | (simp [errW_none, errW_some] <;> rfl) | (simp [*, errW_none, errW_some] <;> rfl), by repeat (first | (with_reducible first | exact HB.out | apply below_alloc | apply pw_below_drewN | apply below_drew1) | exact HB.out)⟩
                          · rw [if_neg c24] at H
                            have c24b0 : (t164 == 2) = false := beq_eq_false_iff_ne.mpr c24
                            have c24b1 : (t164 != 2) = true := bne_iff_ne.mpr c24
                            obtain rfl := Option.some.inj H
                            go_wp2_with (first | ((with_reducible refine gate_callee (f := 10) rfl ?_); refine goesL_ (some 32) rfl rfl Tryd.func10 (by kernel_rfl) rfl #[.string ((((⟨#[80]⟩ : ByteArray) ++ t160) ++ x8_7) ++ a2)] rfl (by (try simp only [List.map_toArray, List.map_cons, List.map_nil]); first | done | rfl | (simp only [List.length_drop, List.length_take]; rfl)) ?_; (with_reducible refine (span_Parse.calls ((((⟨#[80]⟩ : ByteArray) ++ t160) ++ x8_7) ++ a2) t161 t162 _ A14.out).mono ?_); rintro e w70 ⟨rfl, hb⟩; refine ⟨_, rfl, ?_⟩; have n0_ := Aside0.mk (below_step (by repeat (first | (with_reducible first | exact HB.out | apply below_alloc | apply pw_below_drewN | apply below_drew1) | exact HB.out)) hb); clear HB; have HB := n0_; clear n0_; (try clear hb); (try clear hb2); (try clear hk); (try clear hi)) | ((with_reducible refine gate_callee (f := 10) rfl ?_); refine goesL_ (some 39) rfl rfl Tryd.func10 (by kernel_rfl) rfl #[.string (((⟨#[112]⟩ : ByteArray) ++ t160) ++ (⟨#[87]⟩ : ByteArray))] rfl (by (try simp only [List.map_toArray, List.map_cons, List.map_nil]); first | done | rfl | (simp only [List.length_drop, List.length_take]; rfl)) ?_; (with_reducible refine (span_Parse.calls (((⟨#[112]⟩ : ByteArray) ++ t160) ++ (⟨#[87]⟩ : ByteArray)) t163 t164 _ A16.out).mono ?_); rintro e w71 ⟨rfl, hb⟩; refine ⟨_, rfl, ?_⟩; have n0_ := Aside0.mk (below_step (by repeat (first | (with_reducible first | exact HB.out | apply below_alloc | apply pw_below_drewN | apply below_drew1) | exact HB.out)) hb); clear HB; have HB := n0_; clear n0_; (try clear hb); (try clear hb2); (try clear hk); (try clear hi)) | ((with_reducible refine gate_callee (f := 10) rfl ?_); refine goesL_ (some 46) rfl rfl Tryd.func10 (by kernel_rfl) rfl #[.string (((⟨#[80, 48]⟩ : ByteArray) ++ t160) ++ (⟨#[87]⟩ : ByteArray))] rfl (by (try simp only [List.map_toArray, List.map_cons, List.map_nil]); first | done | rfl | (simp only [List.length_drop, List.length_take]; rfl)) ?_; (with_reducible refine (span_Parse.calls (((⟨#[80, 48]⟩ : ByteArray) ++ t160) ++ (⟨#[87]⟩ : ByteArray)) t165 t166 _ A19.out).mono ?_); rintro e w72 ⟨rfl, hb⟩; refine ⟨_, rfl, ?_⟩; have n0_ := Aside0.mk (below_step (by repeat (first | (with_reducible first | exact HB.out | apply below_alloc | apply pw_below_drewN | apply below_drew1) | exact HB.out)) hb); clear HB; have HB := n0_; clear n0_; (try clear hb); (try clear hb2); (try clear hk); (try clear hi)) | ((with_reducible refine gate_callee (f := 10) rfl ?_); refine goesL_ (some 53) rfl rfl Tryd.func10 (by kernel_rfl) rfl #[.string (((⟨#[80]⟩ : ByteArray) ++ t160) ++ (⟨#[87]⟩ : ByteArray))] rfl (by (try simp only [List.map_toArray, List.map_cons, List.map_nil]); first | done | rfl | (simp only [List.length_drop, List.length_take]; rfl)) ?_; (with_reducible refine (span_Parse.calls (((⟨#[80]⟩ : ByteArray) ++ t160) ++ (⟨#[87]⟩ : ByteArray)) t167 t168 _ A21.out).mono ?_); rintro e w73 ⟨rfl, hb⟩; refine ⟨_, rfl, ?_⟩; have n0_ := Aside0.mk (below_step (by repeat (first | (with_reducible first | exact HB.out | apply below_alloc | apply pw_below_drewN | apply below_drew1) | exact HB.out)) hb); clear HB; have HB := n0_; clear n0_; (try clear hb); (try clear hb2); (try clear hk); (try clear hi)))
                            go_ret
                            exact ⟨by first | rfl | (simp [errW_none, errW_some] <;> rfl) | (simp [*, errW_none, errW_some] <;> rfl), by repeat (first | (with_reducible first | exact HB.out | apply below_alloc | apply pw_below_drewN | apply below_drew1) | exact HB.out)⟩
                        · rw [if_neg c23] at H
                          have c23b0 : (t162 == 4) = false := beq_eq_false_iff_ne.mpr c23
                          have c23b1 : (t162 != 4) = true := bne_iff_ne.mpr c23
                          obtain rfl := Option.some.inj H
                          go_wp2_with (first | ((with_reducible refine gate_callee (f := 10) rfl ?_); refine goesL_ (some 32) rfl rfl Tryd.func10 (by kernel_rfl) rfl #[.string ((((⟨#[80]⟩ : ByteArray) ++ t160) ++ x8_7) ++ a2)] rfl (by (try simp only [List.map_toArray, List.map_cons, List.map_nil]); first | done | rfl | (simp only [List.length_drop, List.length_take]; rfl)) ?_; (with_reducible refine (span_Parse.calls ((((⟨#[80]⟩ : ByteArray) ++ t160) ++ x8_7) ++ a2) t161 t162 _ A14.out).mono ?_); rintro e w74 ⟨rfl, hb⟩; refine ⟨_, rfl, ?_⟩; have n0_ := Aside0.mk (below_step (by repeat (first | (with_reducible first | exact HB.out | apply below_alloc | apply pw_below_drewN | apply below_drew1) | exact HB.out)) hb); clear HB; have HB := n0_; clear n0_; (try clear hb); (try clear hb2); (try clear hk); (try clear hi)) | ((with_reducible refine gate_callee (f := 10) rfl ?_); refine goesL_ (some 39) rfl rfl Tryd.func10 (by kernel_rfl) rfl #[.string (((⟨#[112]⟩ : ByteArray) ++ t160) ++ (⟨#[87]⟩ : ByteArray))] rfl (by (try simp only [List.map_toArray, List.map_cons, List.map_nil]); first | done | rfl | (simp only [List.length_drop, List.length_take]; rfl)) ?_; (with_reducible refine (span_Parse.calls (((⟨#[112]⟩ : ByteArray) ++ t160) ++ (⟨#[87]⟩ : ByteArray)) t163 t164 _ A16.out).mono ?_); rintro e w75 ⟨rfl, hb⟩; refine ⟨_, rfl, ?_⟩; have n0_ := Aside0.mk (below_step (by repeat (first | (with_reducible first | exact HB.out | apply below_alloc | apply pw_below_drewN | apply below_drew1) | exact HB.out)) hb); clear HB; have HB := n0_; clear n0_; (try clear hb); (try clear hb2); (try clear hk); (try clear hi)) | ((with_reducible refine gate_callee (f := 10) rfl ?_); refine goesL_ (some 46) rfl rfl Tryd.func10 (by kernel_rfl) rfl #[.string (((⟨#[80, 48]⟩ : ByteArray) ++ t160) ++ (⟨#[87]⟩ : ByteArray))] rfl (by (try simp only [List.map_toArray, List.map_cons, List.map_nil]); first | done | rfl | (simp only [List.length_drop, List.length_take]; rfl)) ?_; (with_reducible refine (span_Parse.calls (((⟨#[80, 48]⟩ : ByteArray) ++ t160) ++ (⟨#[87]⟩ : ByteArray)) t165 t166 _ A19.out).mono ?_); rintro e w76 ⟨rfl, hb⟩; refine ⟨_, rfl, ?_⟩; have n0_ := Aside0.mk (below_step (by repeat (first | (with_reducible first | exact HB.out | apply below_alloc | apply pw_below_drewN | apply below_drew1) | exact HB.out)) hb); clear HB; have HB := n0_; clear n0_; (try clear hb); (try clear hb2); (try clear hk); (try clear hi)) | ((with_reducible refine gate_callee (f := 10) rfl ?_); refine goesL_ (some 53) rfl rfl Tryd.func10 (by kernel_rfl) rfl #[.string (((⟨#[80]⟩ : ByteArray) ++ t160) ++ (⟨#[87]⟩ : ByteArray))] rfl (by (try simp only [List.map_toArray, List.map_cons, List.map_nil]); first | done | rfl | (simp only [List.length_drop, List.length_take]; rfl)) ?_; (with_reducible refine (span_Parse.calls (((⟨#[80]⟩ : ByteArray) ++ t160) ++ (⟨#[87]⟩ : ByteArray)) t167 t168 _ A21.out).mono ?_); rintro e w77 ⟨rfl, hb⟩; refine ⟨_, rfl, ?_⟩; have n0_ := Aside0.mk (below_step (by repeat (first | (with_reducible first | exact HB.out | apply below_alloc | apply pw_below_drewN | apply below_drew1) | exact HB.out)) hb); clear HB; have HB := n0_; clear n0_; (try clear hb); (try clear hb2); (try clear hk); (try clear hi)))
                          go_ret
                          exact ⟨by first | rfl | (simp [errW_none, errW_some] <;> rfl) | (simp [*, errW_none, errW_some] <;> rfl), by repeat (first | (with_reducible first | exact HB.out | apply below_alloc | apply pw_below_drewN | apply below_drew1) | exact HB.out)⟩
                      · rw [if_neg c22] at H
                        have c22b0 : (t161 == 0) = false := beq_eq_false_iff_ne.mpr c22
                        have c22b1 : (t161 != 0) = true := bne_iff_ne.mpr c22
                        obtain rfl := Option.some.inj H
                        go_wp2_with (first | ((with_reducible refine gate_callee (f := 10) rfl ?_); refine goesL_ (some 32) rfl rfl Tryd.func10 (by kernel_rfl) rfl #[.string ((((⟨#[80]⟩ : ByteArray) ++ t160) ++ x8_7) ++ a2)] rfl (by (try simp only [List.map_toArray, List.map_cons, List.map_nil]); first | done | rfl | (simp only [List.length_drop, List.length_take]; rfl)) ?_; (with_reducible refine (span_Parse.calls ((((⟨#[80]⟩ : ByteArray) ++ t160) ++ x8_7) ++ a2) t161 t162 _ A14.out).mono ?_); rintro e w78 ⟨rfl, hb⟩; refine ⟨_, rfl, ?_⟩; have n0_ := Aside0.mk (below_step (by repeat (first | (with_reducible first | exact HB.out | apply below_alloc | apply pw_below_drewN | apply below_drew1) | exact HB.out)) hb); clear HB; have HB := n0_; clear n0_; (try clear hb); (try clear hb2); (try clear hk); (try clear hi)) | ((with_reducible refine gate_callee (f := 10) rfl ?_); refine goesL_ (some 39) rfl rfl Tryd.func10 (by kernel_rfl) rfl #[.string (((⟨#[112]⟩ : ByteArray) ++ t160) ++ (⟨#[87]⟩ : ByteArray))] rfl (by (try simp only [List.map_toArray, List.map_cons, List.map_nil]); first | done | rfl | (simp only [List.length_drop, List.length_take]; rfl)) ?_; (with_reducible refine (span_Parse.calls (((⟨#[112]⟩ : ByteArray) ++ t160) ++ (⟨#[87]⟩ : ByteArray)) t163 t164 _ A16.out).mono ?_); rintro e w79 ⟨rfl, hb⟩; refine ⟨_, rfl, ?_⟩; have n0_ := Aside0.mk (below_step (by repeat (first | (with_reducible first | exact HB.out | apply below_alloc | apply pw_below_drewN | apply below_drew1) | exact HB.out)) hb); clear HB; have HB := n0_; clear n0_; (try clear hb); (try clear hb2); (try clear hk); (try clear hi)) | ((with_reducible refine gate_callee (f := 10) rfl ?_); refine goesL_ (some 46) rfl rfl Tryd.func10 (by kernel_rfl) rfl #[.string (((⟨#[80, 48]⟩ : ByteArray) ++ t160) ++ (⟨#[87]⟩ : ByteArray))] rfl (by (try simp only [List.map_toArray, List.map_cons, List.map_nil]); first | done | rfl | (simp only [List.length_drop, List.length_take]; rfl)) ?_; (with_reducible refine (span_Parse.calls (((⟨#[80, 48]⟩ : ByteArray) ++ t160) ++ (⟨#[87]⟩ : ByteArray)) t165 t166 _ A19.out).mono ?_); rintro e w80 ⟨rfl, hb⟩; refine ⟨_, rfl, ?_⟩; have n0_ := Aside0.mk (below_step (by repeat (first | (with_reducible first | exact HB.out | apply below_alloc | apply pw_below_drewN | apply below_drew1) | exact HB.out)) hb); clear HB; have HB := n0_; clear n0_; (try clear hb); (try clear hb2); (try clear hk); (try clear hi)) | ((with_reducible refine gate_callee (f := 10) rfl ?_); refine goesL_ (some 53) rfl rfl Tryd.func10 (by kernel_rfl) rfl #[.string (((⟨#[80]⟩ : ByteArray) ++ t160) ++ (⟨#[87]⟩ : ByteArray))] rfl (by (try simp only [List.map_toArray, List.map_cons, List.map_nil]); first | done | rfl | (simp only [List.length_drop, List.length_take]; rfl)) ?_; (with_reducible refine (span_Parse.calls (((⟨#[80]⟩ : ByteArray) ++ t160) ++ (⟨#[87]⟩ : ByteArray)) t167 t168 _ A21.out).mono ?_); rintro e w81 ⟨rfl, hb⟩; refine ⟨_, rfl, ?_⟩; have n0_ := Aside0.mk (below_step (by repeat (first | (with_reducible first | exact HB.out | apply below_alloc | apply pw_below_drewN | apply below_drew1) | exact HB.out)) hb); clear HB; have HB := n0_; clear n0_; (try clear hb); (try clear hb2); (try clear hk); (try clear hi)))
                        go_ret
                        exact ⟨by first | rfl | (simp [errW_none, errW_some] <;> rfl) | (simp [*, errW_none, errW_some] <;> rfl), by repeat (first | (with_reducible first | exact HB.out | apply below_alloc | apply pw_below_drewN | apply below_drew1) | exact HB.out)⟩
                    · rw [if_neg c20] at H
                      exact absurd H (by simp)
                  · rw [if_neg c18] at H
                    exact absurd H (by simp)
                · rw [if_neg c17] at H
                  exact absurd H (by simp)
              · rw [if_neg c15] at H
                exact absurd H (by simp)
            · rw [if_neg c13] at H
              exact absurd H (by simp)
          · rw [if_neg c12] at H
            exact absurd H (by simp)
        · rw [if_neg c11] at H
          exact absurd H (by simp)

/-- THE ONE PURE STATEMENT of remontoirlaw02_SpanCalendar: yours. -/
def remontoirlaw02_SpanCalendar.Pure : Prop := ∀ (a0 : Int) (a1 : Bool) (a2 : ByteArray), (Lit.int .u32 a0).wf = true → a2.size ≤ 140737488351232 → ∃ k, remontoirlaw02_SpanCalendar.f k a0 a1 a2 = some true
theorem remontoirlaw02_SpanCalendar.walk (P : remontoirlaw02_SpanCalendar.Pure) (a0 : Int) (a1 : Bool) (a2 : ByteArray) (w : World) (hTab : Tab w) (w0 : (Lit.int .u32 a0).wf = true) (w2 : a2.size ≤ 140737488351232) :
    Calls Tryd.prog 8 #[.int .u32 a0, .bool a1, .string a2] w fun e w' => e = .returned (.bool true) ∧ Below w.heap.size w w' := by
  obtain ⟨k, h⟩ := P a0 a1 a2 w0 w2
  refine (remontoirlaw02_SpanCalendar.calls k a0 a1 a2 true w hTab h).mono ?_
  rintro e w' ⟨rfl, hd⟩
  exact ⟨rfl, hd⟩

end Go.Proofs.YtmjabkegnpinoaaDoor.Q
