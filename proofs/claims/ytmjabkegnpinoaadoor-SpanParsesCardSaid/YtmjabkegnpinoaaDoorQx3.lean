/- What Go functions compute, as plain Lean functions, and that the machine comes to just that: written by wip/tools/printx.py (my run of the printer, with contracts of mine beside it). -/
import Derived.Test.YtmjabkegnpinoaaDoorQx0
import Derived.Test.YtmjabkegnpinoaaDoorQx1
import Derived.Test.YtmjabkegnpinoaaDoorQx2
namespace Go.Proofs.YtmjabkegnpinoaaDoor.Q
open Go.Proofs.YtmjabkegnpinoaaDoor.Ext Go.Proofs.YtmjabkegnpinoaaDoor.B Go.RowKit Go.Proofs.YtmjabkegnpinoaaDoorW.PrintWords Go.Proofs.YtmjabkegnpinoaaDoorW.PrintLast Go.Proofs.YtmjabkegnpinoaaDoorW.PrintMore
attribute [local go_sem] max2_int min2_int max_two min_two max_three min_three max_four min_four   -- for this text's walks alone
set_option linter.unusedVariables false
set_option linter.unusedSimpArgs false

/-! ### remontoirlaw02_SpanParses: function 3 -/
def remontoirlaw02_SpanParses.f (k : Nat) (a0 : ByteArray) : Option (Bool) := if (a0.size : Int) > 300 then ((remontoirlaw02_wakes.f).bind fun t124 => (some t124)) else ((span_Parse.f a0).bind fun bt125 => ((remontoirref02_Parse.f k a0).bind fun bt127 => (if bt125.1 = bt127.1 then (if bt125.2 = bt127.2 then ((remontoirlaw02_wakes.f).bind fun t129 => (some t129)) else (some false)) else (some false))))
theorem remontoirlaw02_SpanParses.mono : ∀ a0 k, LeO (remontoirlaw02_SpanParses.f k a0) (remontoirlaw02_SpanParses.f (k + 1) a0) := by
  intro a0 k
  unfold remontoirlaw02_SpanParses.f
  repeat' first
      | (with_reducible exact remontoirref02_Parse.mono _ _)
      | (with_reducible exact LeO.refl _)
      | (with_reducible exact LeO.none _)
      | (with_reducible refine LeO.ite ?_ ?_)
      | (with_reducible refine LeO.bind ?_ (fun _ => ?_))
      | exact remontoirref02_Parse.mono _ _
      | exact LeO.none _
      | refine LeO.ite ?_ ?_
      | refine LeO.bind ?_ (fun _ => ?_)
set_option maxHeartbeats 8000000 in
set_option maxRecDepth 100000 in
theorem remontoirlaw02_SpanParses.calls (k : Nat) (a0 : ByteArray) (r : Bool) (w : World) (hTab : Tab w) (h : remontoirlaw02_SpanParses.f k a0 = some r) :
    Calls Tryd.prog 3 #[.string a0] w fun e w' => e = .returned (.bool r) ∧ Below w.heap.size w w' := by
  have HB := Aside0.mk (Below.refl w.heap.size w)
  have H : (if (a0.size : Int) > 300 then ((remontoirlaw02_wakes.f).bind fun t124 => (some t124)) else ((span_Parse.f a0).bind fun bt125 => ((remontoirref02_Parse.f k a0).bind fun bt127 => (if bt125.1 = bt127.1 then (if bt125.2 = bt127.2 then ((remontoirlaw02_wakes.f).bind fun t129 => (some t129)) else (some false)) else (some false))))) = some r := h
  clear h
  by_cases c2 : (a0.size : Int) > 300
  · rw [if_pos c2] at H
    have c2b0 : decide (300 < (a0.size : Int)) = true := decide_eq_true c2
    have c2b1 : decide (300 < a0.size) = true := decide_eq_true (by omega)
    clear c2
    replace H := Option.bind_eq_some_iff.mp H
    obtain ⟨t124, A30, H⟩ := H
    replace H : (some t124) = some r := H
    have A3 := Aside0.mk A30
    clear A30
    obtain rfl := Option.some.inj H
    go_enter Tryd.func3, Tryd.ntmps3
    go_wp2_with (first | ((with_reducible refine gate_callee (f := 9) rfl ?_); refine goesL_ (some 10) rfl rfl Tryd.func9 (by kernel_rfl) rfl #[] rfl (by (try simp only [List.map_toArray, List.map_cons, List.map_nil]); first | done | rfl | (simp only [List.length_drop, List.length_take]; rfl)) ?_; (with_reducible refine (remontoirlaw02_wakes.calls  t124 _ (Tab.below hTab (by repeat (first | exact HB.out | apply below_alloc | apply pw_below_drewN | apply below_drew1)))  A3.out).mono ?_); rintro e w4 ⟨rfl, hb⟩; refine ⟨_, rfl, ?_⟩; have n0_ := Aside0.mk (below_step (by repeat (first | (with_reducible first | exact HB.out | apply below_alloc | apply pw_below_drewN | apply below_drew1) | exact HB.out)) hb); clear HB; have HB := n0_; clear n0_; (try clear hb); (try clear hb2); (try clear hk); (try clear hi)))
    go_ret
    exact ⟨by first | rfl | (simp [errW_none, errW_some] <;> rfl) | (simp [*, errW_none, errW_some] <;> rfl), by repeat (first | (with_reducible first | exact HB.out | apply below_alloc | apply pw_below_drewN | apply below_drew1) | exact HB.out)⟩
  · rw [if_neg c2] at H
    have c2b0 : decide (300 < (a0.size : Int)) = false := decide_eq_false c2
    have c2b1 : decide (300 < a0.size) = false := decide_eq_false (by omega)
    clear c2
    replace H := Option.bind_eq_some_iff.mp H
    obtain ⟨⟨t125, t126⟩, A50, H⟩ := H
    replace H : ((remontoirref02_Parse.f k a0).bind fun bt127 => (if t125 = bt127.1 then (if t126 = bt127.2 then ((remontoirlaw02_wakes.f).bind fun t129 => (some t129)) else (some false)) else (some false))) = some r := H
    have A5 := Aside0.mk A50
    clear A50
    replace H := Option.bind_eq_some_iff.mp H
    obtain ⟨⟨t127, t128⟩, A60, H⟩ := H
    replace H : (if t125 = t127 then (if t126 = t128 then ((remontoirlaw02_wakes.f).bind fun t129 => (some t129)) else (some false)) else (some false)) = some r := H
    have A6 := Aside0.mk A60
    clear A60
    by_cases c7 : t125 = t127
    · rw [if_pos c7] at H
      have c7b0 : (t125 == t127) = true := beq_iff_eq.mpr c7
      have c7b1 : (t125 != t127) = false := bne_eq_false_iff_eq.mpr c7
      clear c7
      by_cases c8 : t126 = t128
      · rw [if_pos c8] at H
        have c8b0 : (t126 == t128) = true := beq_iff_eq.mpr c8
        have c8b1 : (t126 != t128) = false := bne_eq_false_iff_eq.mpr c8
        clear c8
        replace H := Option.bind_eq_some_iff.mp H
        obtain ⟨t129, A90, H⟩ := H
        replace H : (some t129) = some r := H
        have A9 := Aside0.mk A90
        clear A90
        obtain rfl := Option.some.inj H
        go_enter Tryd.func3, Tryd.ntmps3
        go_wp2_with (first | ((with_reducible refine gate_callee (f := 10) rfl ?_); refine goesL_ (some 13) rfl rfl Tryd.func10 (by kernel_rfl) rfl #[.string a0] rfl (by (try simp only [List.map_toArray, List.map_cons, List.map_nil]); first | done | rfl | (simp only [List.length_drop, List.length_take]; rfl)) ?_; (with_reducible refine (span_Parse.calls a0 t125 t126 _ A5.out).mono ?_); rintro e w10 ⟨rfl, hb⟩; refine ⟨_, rfl, ?_⟩; have n0_ := Aside0.mk (below_step (by repeat (first | (with_reducible first | exact HB.out | apply below_alloc | apply pw_below_drewN | apply below_drew1) | exact HB.out)) hb); clear HB; have HB := n0_; clear n0_; (try clear hb); (try clear hb2); (try clear hk); (try clear hi)) | ((with_reducible refine gate_callee (f := 11) rfl ?_); refine goesL_ (some 18) rfl rfl Tryd.func11 (by kernel_rfl) rfl #[.string a0] rfl (by (try simp only [List.map_toArray, List.map_cons, List.map_nil]); first | done | rfl | (simp only [List.length_drop, List.length_take]; rfl)) ?_; (with_reducible refine (remontoirref02_Parse.calls k a0 t127 t128 _ A6.out).mono ?_); rintro e w11 ⟨rfl, hb⟩; refine ⟨_, rfl, ?_⟩; have n0_ := Aside0.mk (below_step (by repeat (first | (with_reducible first | exact HB.out | apply below_alloc | apply pw_below_drewN | apply below_drew1) | exact HB.out)) hb); clear HB; have HB := n0_; clear n0_; (try clear hb); (try clear hb2); (try clear hk); (try clear hi)) | (go_at_call 9; (with_reducible refine (remontoirlaw02_wakes.calls  t129 _ (Tab.below hTab (by repeat (first | exact HB.out | apply below_alloc | apply pw_below_drewN | apply below_drew1)))  A9.out).mono ?_); rintro e w12 ⟨rfl, hb⟩; have n0_ := Aside0.mk (below_step (by repeat (first | (with_reducible first | exact HB.out | apply below_alloc | apply pw_below_drewN | apply below_drew1) | exact HB.out)) hb); clear HB; have HB := n0_; clear n0_; (try clear hb); (try clear hb2); (try clear hk); (try clear hi)))
        go_ret
        exact ⟨by first | rfl | (simp [errW_none, errW_some] <;> rfl) | (simp [*, errW_none, errW_some] <;> rfl), by repeat (first | (with_reducible first | exact HB.out | apply below_alloc | apply pw_below_drewN | apply below_drew1) | exact HB.out)⟩
      · rw [if_neg c8] at H
        have c8b0 : (t126 == t128) = false := beq_eq_false_iff_ne.mpr c8
        have c8b1 : (t126 != t128) = true := bne_iff_ne.mpr c8
        obtain rfl := Option.some.inj H
        go_enter Tryd.func3, Tryd.ntmps3
        go_wp2_with (first | ((with_reducible refine gate_callee (f := 10) rfl ?_); refine goesL_ (some 13) rfl rfl Tryd.func10 (by kernel_rfl) rfl #[.string a0] rfl (by (try simp only [List.map_toArray, List.map_cons, List.map_nil]); first | done | rfl | (simp only [List.length_drop, List.length_take]; rfl)) ?_; (with_reducible refine (span_Parse.calls a0 t125 t126 _ A5.out).mono ?_); rintro e w13 ⟨rfl, hb⟩; refine ⟨_, rfl, ?_⟩; have n0_ := Aside0.mk (below_step (by repeat (first | (with_reducible first | exact HB.out | apply below_alloc | apply pw_below_drewN | apply below_drew1) | exact HB.out)) hb); clear HB; have HB := n0_; clear n0_; (try clear hb); (try clear hb2); (try clear hk); (try clear hi)) | ((with_reducible refine gate_callee (f := 11) rfl ?_); refine goesL_ (some 18) rfl rfl Tryd.func11 (by kernel_rfl) rfl #[.string a0] rfl (by (try simp only [List.map_toArray, List.map_cons, List.map_nil]); first | done | rfl | (simp only [List.length_drop, List.length_take]; rfl)) ?_; (with_reducible refine (remontoirref02_Parse.calls k a0 t127 t128 _ A6.out).mono ?_); rintro e w14 ⟨rfl, hb⟩; refine ⟨_, rfl, ?_⟩; have n0_ := Aside0.mk (below_step (by repeat (first | (with_reducible first | exact HB.out | apply below_alloc | apply pw_below_drewN | apply below_drew1) | exact HB.out)) hb); clear HB; have HB := n0_; clear n0_; (try clear hb); (try clear hb2); (try clear hk); (try clear hi)))
        go_ret
        exact ⟨by first | rfl | (simp [errW_none, errW_some] <;> rfl) | (simp [*, errW_none, errW_some] <;> rfl), by repeat (first | (with_reducible first | exact HB.out | apply below_alloc | apply pw_below_drewN | apply below_drew1) | exact HB.out)⟩
    · rw [if_neg c7] at H
      have c7b0 : (t125 == t127) = false := beq_eq_false_iff_ne.mpr c7
      have c7b1 : (t125 != t127) = true := bne_iff_ne.mpr c7
      obtain rfl := Option.some.inj H
      go_enter Tryd.func3, Tryd.ntmps3
      go_wp2_with (first | ((with_reducible refine gate_callee (f := 10) rfl ?_); refine goesL_ (some 13) rfl rfl Tryd.func10 (by kernel_rfl) rfl #[.string a0] rfl (by (try simp only [List.map_toArray, List.map_cons, List.map_nil]); first | done | rfl | (simp only [List.length_drop, List.length_take]; rfl)) ?_; (with_reducible refine (span_Parse.calls a0 t125 t126 _ A5.out).mono ?_); rintro e w15 ⟨rfl, hb⟩; refine ⟨_, rfl, ?_⟩; have n0_ := Aside0.mk (below_step (by repeat (first | (with_reducible first | exact HB.out | apply below_alloc | apply pw_below_drewN | apply below_drew1) | exact HB.out)) hb); clear HB; have HB := n0_; clear n0_; (try clear hb); (try clear hb2); (try clear hk); (try clear hi)) | ((with_reducible refine gate_callee (f := 11) rfl ?_); refine goesL_ (some 18) rfl rfl Tryd.func11 (by kernel_rfl) rfl #[.string a0] rfl (by (try simp only [List.map_toArray, List.map_cons, List.map_nil]); first | done | rfl | (simp only [List.length_drop, List.length_take]; rfl)) ?_; (with_reducible refine (remontoirref02_Parse.calls k a0 t127 t128 _ A6.out).mono ?_); rintro e w16 ⟨rfl, hb⟩; refine ⟨_, rfl, ?_⟩; have n0_ := Aside0.mk (below_step (by repeat (first | (with_reducible first | exact HB.out | apply below_alloc | apply pw_below_drewN | apply below_drew1) | exact HB.out)) hb); clear HB; have HB := n0_; clear n0_; (try clear hb); (try clear hb2); (try clear hk); (try clear hi)))
      go_ret
      exact ⟨by first | rfl | (simp [errW_none, errW_some] <;> rfl) | (simp [*, errW_none, errW_some] <;> rfl), by repeat (first | (with_reducible first | exact HB.out | apply below_alloc | apply pw_below_drewN | apply below_drew1) | exact HB.out)⟩

/-- THE ONE PURE STATEMENT of remontoirlaw02_SpanParses: yours. -/
def remontoirlaw02_SpanParses.Pure : Prop := ∀ (a0 : ByteArray), a0.size ≤ 140737488351232 → ∃ k, remontoirlaw02_SpanParses.f k a0 = some true
theorem remontoirlaw02_SpanParses.walk (P : remontoirlaw02_SpanParses.Pure) (a0 : ByteArray) (w : World) (hTab : Tab w) (w0 : a0.size ≤ 140737488351232) :
    Calls Tryd.prog 3 #[.string a0] w fun e w' => e = .returned (.bool true) ∧ Below w.heap.size w w' := by
  obtain ⟨k, h⟩ := P a0 w0
  refine (remontoirlaw02_SpanParses.calls k a0 true w hTab h).mono ?_
  rintro e w' ⟨rfl, hd⟩
  exact ⟨rfl, hd⟩


/-! ### remontoirlaw02_SpanPrints: function 4 -/
def remontoirlaw02_SpanPrints.f (a0 : Int) : Option (Bool) := (span_Print.f a0).bind fun bt130 => ((remontoirref02_Print.f a0).bind fun t132 => (if bt130.1.toList = t132.toList then (if (bt130.2 == (decide (a0 ≤ 1125899906842624))) = true then ((remontoirlaw02_wakes.f).bind fun t133 => (some t133)) else (some false)) else (some false)))
set_option maxHeartbeats 8000000 in
set_option maxRecDepth 100000 in
theorem remontoirlaw02_SpanPrints.calls (a0 : Int) (r : Bool) (w : World) (hTab : Tab w) (h : remontoirlaw02_SpanPrints.f a0 = some r) :
    Calls Tryd.prog 4 #[.int .u64 a0] w fun e w' => e = .returned (.bool r) ∧ Below w.heap.size w w' := by
  have HB := Aside0.mk (Below.refl w.heap.size w)
  have H : ((span_Print.f a0).bind fun bt130 => ((remontoirref02_Print.f a0).bind fun t132 => (if bt130.1.toList = t132.toList then (if (bt130.2 == (decide (a0 ≤ 1125899906842624))) = true then ((remontoirlaw02_wakes.f).bind fun t133 => (some t133)) else (some false)) else (some false)))) = some r := h
  clear h
  replace H := Option.bind_eq_some_iff.mp H
  obtain ⟨⟨t130, t131⟩, A20, H⟩ := H
  replace H : ((remontoirref02_Print.f a0).bind fun t132 => (if t130.toList = t132.toList then (if (t131 == (decide (a0 ≤ 1125899906842624))) = true then ((remontoirlaw02_wakes.f).bind fun t133 => (some t133)) else (some false)) else (some false))) = some r := H
  have A2 := Aside0.mk A20
  clear A20
  replace H := Option.bind_eq_some_iff.mp H
  obtain ⟨t132, A30, H⟩ := H
  replace H : (if t130.toList = t132.toList then (if (t131 == (decide (a0 ≤ 1125899906842624))) = true then ((remontoirlaw02_wakes.f).bind fun t133 => (some t133)) else (some false)) else (some false)) = some r := H
  have A3 := Aside0.mk A30
  clear A30
  by_cases c4 : t130.toList = t132.toList
  · rw [if_pos c4] at H
    have c4b0 : (t130.toList == t132.toList) = true := beq_iff_eq.mpr c4
    have c4b1 : (t130.toList != t132.toList) = false := bne_eq_false_iff_eq.mpr c4
    clear c4
    by_cases c5 : (t131 == (decide (a0 ≤ 1125899906842624))) = true
    · rw [if_pos c5] at H
      have c5b0 : (t131 == (decide (a0 ≤ 1125899906842624))) = true := c5
      (try (have c5b1 : decide (t131 = (decide (a0 ≤ 1125899906842624))) = true := by simpa using c5))
      (try (have c5b2 : (t131 == (decide (a0 ≤ 1125899906842624))) = true := by simpa using c5))
      clear c5
      replace H := Option.bind_eq_some_iff.mp H
      obtain ⟨t133, A60, H⟩ := H
      replace H : (some t133) = some r := H
      have A6 := Aside0.mk A60
      clear A60
      obtain rfl := Option.some.inj H
      go_enter Tryd.func4, Tryd.ntmps4
      go_wp2_with (first | ((with_reducible refine gate_callee (f := 12) rfl ?_); refine goesL_ (some 7) rfl rfl Tryd.func12 (by kernel_rfl) rfl #[.int .u64 a0] rfl (by (try simp only [List.map_toArray, List.map_cons, List.map_nil]); first | done | rfl | (simp only [List.length_drop, List.length_take]; rfl)) ?_; (with_reducible refine (span_Print.calls a0 t130 t131 _ (Tab.below hTab (by repeat (first | exact HB.out | apply below_alloc | apply pw_below_drewN | apply below_drew1)))  A2.out).mono ?_); rintro e w7 ⟨rfl, hb⟩; refine ⟨_, rfl, ?_⟩; have n0_ := Aside0.mk (below_step (by repeat (first | (with_reducible first | exact HB.out | apply below_alloc | apply pw_below_drewN | apply below_drew1) | exact HB.out)) hb); clear HB; have HB := n0_; clear n0_; (try clear hb); (try clear hb2); (try clear hk); (try clear hi)) | ((with_reducible refine gate_callee (f := 13) rfl ?_); refine goesL_ (some 12) rfl rfl Tryd.func13 (by kernel_rfl) rfl #[.int .u64 a0] rfl (by (try simp only [List.map_toArray, List.map_cons, List.map_nil]); first | done | rfl | (simp only [List.length_drop, List.length_take]; rfl)) ?_; (with_reducible refine (remontoirref02_Print.calls a0 t132 _ A3.out).mono ?_); rintro e w8 ⟨rfl, hb⟩; refine ⟨_, rfl, ?_⟩; have n0_ := Aside0.mk (below_step (by repeat (first | (with_reducible first | exact HB.out | apply below_alloc | apply pw_below_drewN | apply below_drew1) | exact HB.out)) hb); clear HB; have HB := n0_; clear n0_; (try clear hb); (try clear hb2); (try clear hk); (try clear hi)) | (go_at_call 9; (with_reducible refine (remontoirlaw02_wakes.calls  t133 _ (Tab.below hTab (by repeat (first | exact HB.out | apply below_alloc | apply pw_below_drewN | apply below_drew1)))  A6.out).mono ?_); rintro e w9 ⟨rfl, hb⟩; have n0_ := Aside0.mk (below_step (by repeat (first | (with_reducible first | exact HB.out | apply below_alloc | apply pw_below_drewN | apply below_drew1) | exact HB.out)) hb); clear HB; have HB := n0_; clear n0_; (try clear hb); (try clear hb2); (try clear hk); (try clear hi)))
      go_ret
      exact ⟨by first | rfl | (simp [errW_none, errW_some] <;> rfl) | (simp [*, errW_none, errW_some] <;> rfl), by repeat (first | (with_reducible first | exact HB.out | apply below_alloc | apply pw_below_drewN | apply below_drew1) | exact HB.out)⟩
    · rw [if_neg c5] at H
      have c5b0 : (t131 == (decide (a0 ≤ 1125899906842624))) = false := by simpa using c5
      (try (have c5b1 : decide (t131 = (decide (a0 ≤ 1125899906842624))) = false := by simpa using c5))
      (try (have c5b2 : (t131 == (decide (a0 ≤ 1125899906842624))) = false := by simpa using c5))
      (try (have c5b3 : ¬ (t131 = (decide (a0 ≤ 1125899906842624))) := by simpa using c5))
      clear c5
      obtain rfl := Option.some.inj H
      go_enter Tryd.func4, Tryd.ntmps4
      go_wp2_with (first | ((with_reducible refine gate_callee (f := 12) rfl ?_); refine goesL_ (some 7) rfl rfl Tryd.func12 (by kernel_rfl) rfl #[.int .u64 a0] rfl (by (try simp only [List.map_toArray, List.map_cons, List.map_nil]); first | done | rfl | (simp only [List.length_drop, List.length_take]; rfl)) ?_; (with_reducible refine (span_Print.calls a0 t130 t131 _ (Tab.below hTab (by repeat (first | exact HB.out | apply below_alloc | apply pw_below_drewN | apply below_drew1)))  A2.out).mono ?_); rintro e w10 ⟨rfl, hb⟩; refine ⟨_, rfl, ?_⟩; have n0_ := Aside0.mk (below_step (by repeat (first | (with_reducible first | exact HB.out | apply below_alloc | apply pw_below_drewN | apply below_drew1) | exact HB.out)) hb); clear HB; have HB := n0_; clear n0_; (try clear hb); (try clear hb2); (try clear hk); (try clear hi)) | ((with_reducible refine gate_callee (f := 13) rfl ?_); refine goesL_ (some 12) rfl rfl Tryd.func13 (by kernel_rfl) rfl #[.int .u64 a0] rfl (by (try simp only [List.map_toArray, List.map_cons, List.map_nil]); first | done | rfl | (simp only [List.length_drop, List.length_take]; rfl)) ?_; (with_reducible refine (remontoirref02_Print.calls a0 t132 _ A3.out).mono ?_); rintro e w11 ⟨rfl, hb⟩; refine ⟨_, rfl, ?_⟩; have n0_ := Aside0.mk (below_step (by repeat (first | (with_reducible first | exact HB.out | apply below_alloc | apply pw_below_drewN | apply below_drew1) | exact HB.out)) hb); clear HB; have HB := n0_; clear n0_; (try clear hb); (try clear hb2); (try clear hk); (try clear hi)))
      go_ret
      exact ⟨by first | rfl | (simp [errW_none, errW_some] <;> rfl) | (simp [*, errW_none, errW_some] <;> rfl), by repeat (first | (with_reducible first | exact HB.out | apply below_alloc | apply pw_below_drewN | apply below_drew1) | exact HB.out)⟩
  · rw [if_neg c4] at H
    have c4b0 : (t130.toList == t132.toList) = false := beq_eq_false_iff_ne.mpr c4
    have c4b1 : (t130.toList != t132.toList) = true := bne_iff_ne.mpr c4
    obtain rfl := Option.some.inj H
    go_enter Tryd.func4, Tryd.ntmps4
    go_wp2_with (first | ((with_reducible refine gate_callee (f := 12) rfl ?_); refine goesL_ (some 7) rfl rfl Tryd.func12 (by kernel_rfl) rfl #[.int .u64 a0] rfl (by (try simp only [List.map_toArray, List.map_cons, List.map_nil]); first | done | rfl | (simp only [List.length_drop, List.length_take]; rfl)) ?_; (with_reducible refine (span_Print.calls a0 t130 t131 _ (Tab.below hTab (by repeat (first | exact HB.out | apply below_alloc | apply pw_below_drewN | apply below_drew1)))  A2.out).mono ?_); rintro e w12 ⟨rfl, hb⟩; refine ⟨_, rfl, ?_⟩; have n0_ := Aside0.mk (below_step (by repeat (first | (with_reducible first | exact HB.out | apply below_alloc | apply pw_below_drewN | apply below_drew1) | exact HB.out)) hb); clear HB; have HB := n0_; clear n0_; (try clear hb); (try clear hb2); (try clear hk); (try clear hi)) | ((with_reducible refine gate_callee (f := 13) rfl ?_); refine goesL_ (some 12) rfl rfl Tryd.func13 (by kernel_rfl) rfl #[.int .u64 a0] rfl (by (try simp only [List.map_toArray, List.map_cons, List.map_nil]); first | done | rfl | (simp only [List.length_drop, List.length_take]; rfl)) ?_; (with_reducible refine (remontoirref02_Print.calls a0 t132 _ A3.out).mono ?_); rintro e w13 ⟨rfl, hb⟩; refine ⟨_, rfl, ?_⟩; have n0_ := Aside0.mk (below_step (by repeat (first | (with_reducible first | exact HB.out | apply below_alloc | apply pw_below_drewN | apply below_drew1) | exact HB.out)) hb); clear HB; have HB := n0_; clear n0_; (try clear hb); (try clear hb2); (try clear hk); (try clear hi)))
    go_ret
    exact ⟨by first | rfl | (simp [errW_none, errW_some] <;> rfl) | (simp [*, errW_none, errW_some] <;> rfl), by repeat (first | (with_reducible first | exact HB.out | apply below_alloc | apply pw_below_drewN | apply below_drew1) | exact HB.out)⟩

/-- THE ONE PURE STATEMENT of remontoirlaw02_SpanPrints: yours. -/
def remontoirlaw02_SpanPrints.Pure : Prop := ∀ (a0 : Int), (Lit.int .u64 a0).wf = true → remontoirlaw02_SpanPrints.f a0 = some true
theorem remontoirlaw02_SpanPrints.walk (P : remontoirlaw02_SpanPrints.Pure) (a0 : Int) (w : World) (hTab : Tab w) (w0 : (Lit.int .u64 a0).wf = true) :
    Calls Tryd.prog 4 #[.int .u64 a0] w fun e w' => e = .returned (.bool true) ∧ Below w.heap.size w w' := by
  have h := P a0 w0
  refine (remontoirlaw02_SpanPrints.calls a0 true w hTab h).mono ?_
  rintro e w' ⟨rfl, hd⟩
  exact ⟨rfl, hd⟩

/-! ### remontoirlaw02_SpanBack: function 5 -/
def remontoirlaw02_SpanBack.j0 : Nat → ByteArray → Bool → Option (Bool)
  | 0, _, _ => none
  | k + 1, x1, x46 => if x46 = true then (some false) else ((span_Parse.f x1).bind fun bt139 => (if bt139.2 = 0 then ((span_Print.f bt139.1).bind fun bt141 => ((span_Parse.f bt141.1).bind fun bt143 => (if bt139.1 ≤ 1125899906842624 then (if bt141.2 = true then (if bt143.2 = 0 then (if bt143.1 = bt139.1 then ((remontoirlaw02_wakes.f).bind fun t145 => (some t145)) else (some false)) else (some false)) else (some false)) else (some false)))) else ((remontoirlaw02_wakes.f).bind fun t146 => (some t146))))
def remontoirlaw02_SpanBack.f (k : Nat) (a0 : Int) (a1 : ByteArray) : Option (Bool) := if (a1.size : Int) > 300 then ((remontoirlaw02_wakes.f).bind fun t134 => (some t134)) else ((span_Print.f (Int.tmod a0 1125899906842625)).bind fun bt135 => ((span_Parse.f bt135.1).bind fun bt137 => (if bt135.2 = true then (if bt137.2 = 0 then (if bt137.1 = (Int.tmod a0 1125899906842625) then (remontoirlaw02_SpanBack.j0 k a1 (decide ((bt135.1.size : Int) > 40))) else (remontoirlaw02_SpanBack.j0 k a1 true)) else (remontoirlaw02_SpanBack.j0 k a1 true)) else (remontoirlaw02_SpanBack.j0 k a1 true))))
theorem remontoirlaw02_SpanBack.mono_l : ∀ k, (∀ y0 y1, LeO (remontoirlaw02_SpanBack.j0 k y0 y1) (remontoirlaw02_SpanBack.j0 (k + 1) y0 y1))
  | 0 => fun _ _ r h => by simp [remontoirlaw02_SpanBack.j0] at h
  | k + 1 => by
    have ih0 := remontoirlaw02_SpanBack.mono_l k
    · intro y0 y1
      unfold remontoirlaw02_SpanBack.j0
      repeat' first
      | (with_reducible exact ih0 _ _)
      | (with_reducible exact LeO.refl _)
      | (with_reducible exact LeO.none _)
      | (with_reducible refine LeO.ite ?_ ?_)
      | (with_reducible refine LeO.bind ?_ (fun _ => ?_))
      | exact ih0 _ _
      | exact LeO.none _
      | refine LeO.ite ?_ ?_
      | refine LeO.bind ?_ (fun _ => ?_)
theorem remontoirlaw02_SpanBack.mono : ∀ a0 a1 k, LeO (remontoirlaw02_SpanBack.f k a0 a1) (remontoirlaw02_SpanBack.f (k + 1) a0 a1) := by
  intro a0 a1 k
  have ih0 := remontoirlaw02_SpanBack.mono_l k
  unfold remontoirlaw02_SpanBack.f
  repeat' first
      | (with_reducible exact ih0 _ _)
      | (with_reducible exact LeO.refl _)
      | (with_reducible exact LeO.none _)
      | (with_reducible refine LeO.ite ?_ ?_)
      | (with_reducible refine LeO.bind ?_ (fun _ => ?_))
      | exact ih0 _ _
      | exact LeO.none _
      | refine LeO.ite ?_ ?_
      | refine LeO.bind ?_ (fun _ => ?_)
set_option maxHeartbeats 8000000 in
set_option maxRecDepth 100000 in
theorem remontoirlaw02_SpanBack.calls (k : Nat) (a0 : Int) (a1 : ByteArray) (r : Bool) (w : World) (hTab : Tab w) (h : remontoirlaw02_SpanBack.f k a0 a1 = some r) :
    Calls Tryd.prog 5 #[.int .u64 a0, .string a1] w fun e w' => e = .returned (.bool r) ∧ Below w.heap.size w w' := by
  have HB := Aside0.mk (Below.refl w.heap.size w)
  have H : (if (a1.size : Int) > 300 then ((remontoirlaw02_wakes.f).bind fun t134 => (some t134)) else ((span_Print.f (Int.tmod a0 1125899906842625)).bind fun bt135 => ((span_Parse.f bt135.1).bind fun bt137 => (if bt135.2 = true then (if bt137.2 = 0 then (if bt137.1 = (Int.tmod a0 1125899906842625) then (remontoirlaw02_SpanBack.j0 k a1 (decide ((bt135.1.size : Int) > 40))) else (remontoirlaw02_SpanBack.j0 k a1 true)) else (remontoirlaw02_SpanBack.j0 k a1 true)) else (remontoirlaw02_SpanBack.j0 k a1 true))))) = some r := h
  clear h
  by_cases c3 : (a1.size : Int) > 300
  · rw [if_pos c3] at H
    have c3b0 : decide (300 < (a1.size : Int)) = true := decide_eq_true c3
    have c3b1 : decide (300 < a1.size) = true := decide_eq_true (by omega)
    clear c3
    replace H := Option.bind_eq_some_iff.mp H
    obtain ⟨t134, A40, H⟩ := H
    replace H : (some t134) = some r := H
    have A4 := Aside0.mk A40
    clear A40
    obtain rfl := Option.some.inj H
    go_enter Tryd.func5, Tryd.ntmps5
    go_wp2_with (first | ((with_reducible refine gate_callee (f := 9) rfl ?_); refine goesL_ (some 18) rfl rfl Tryd.func9 (by kernel_rfl) rfl #[] rfl (by (try simp only [List.map_toArray, List.map_cons, List.map_nil]); first | done | rfl | (simp only [List.length_drop, List.length_take]; rfl)) ?_; (with_reducible refine (remontoirlaw02_wakes.calls  t134 _ (Tab.below hTab (by repeat (first | exact HB.out | apply below_alloc | apply pw_below_drewN | apply below_drew1)))  A4.out).mono ?_); rintro e w5 ⟨rfl, hb⟩; refine ⟨_, rfl, ?_⟩; have n0_ := Aside0.mk (below_step (by repeat (first | (with_reducible first | exact HB.out | apply below_alloc | apply pw_below_drewN | apply below_drew1) | exact HB.out)) hb); clear HB; have HB := n0_; clear n0_; (try clear hb); (try clear hb2); (try clear hk); (try clear hi)))
    go_ret
    exact ⟨by first | rfl | (simp [errW_none, errW_some] <;> rfl) | (simp [*, errW_none, errW_some] <;> rfl), by repeat (first | (with_reducible first | exact HB.out | apply below_alloc | apply pw_below_drewN | apply below_drew1) | exact HB.out)⟩
  · rw [if_neg c3] at H
    have c3b0 : decide (300 < (a1.size : Int)) = false := decide_eq_false c3
    have c3b1 : decide (300 < a1.size) = false := decide_eq_false (by omega)
    clear c3
    replace H := Option.bind_eq_some_iff.mp H
    obtain ⟨⟨t135, t136⟩, A60, H⟩ := H
    replace H : ((span_Parse.f t135).bind fun bt137 => (if t136 = true then (if bt137.2 = 0 then (if bt137.1 = (Int.tmod a0 1125899906842625) then (remontoirlaw02_SpanBack.j0 k a1 (decide ((t135.size : Int) > 40))) else (remontoirlaw02_SpanBack.j0 k a1 true)) else (remontoirlaw02_SpanBack.j0 k a1 true)) else (remontoirlaw02_SpanBack.j0 k a1 true))) = some r := H
    have A6 := Aside0.mk A60
    clear A60
    replace H := Option.bind_eq_some_iff.mp H
    obtain ⟨⟨t137, t138⟩, A70, H⟩ := H
    replace H : (if t136 = true then (if t138 = 0 then (if t137 = (Int.tmod a0 1125899906842625) then (remontoirlaw02_SpanBack.j0 k a1 (decide ((t135.size : Int) > 40))) else (remontoirlaw02_SpanBack.j0 k a1 true)) else (remontoirlaw02_SpanBack.j0 k a1 true)) else (remontoirlaw02_SpanBack.j0 k a1 true)) = some r := H
    have A7 := Aside0.mk A70
    clear A70
    have HC8 := Aside0.mk H
    clear H
    go_enter Tryd.func5, Tryd.ntmps5
    go_upto_region 6 with (first | ((with_reducible refine gate_callee (f := 12) rfl ?_); refine goesL_ (some 23) rfl rfl Tryd.func12 (by kernel_rfl) rfl #[.int .u64 (Int.tmod a0 1125899906842625)] rfl (by (try simp only [List.map_toArray, List.map_cons, List.map_nil]); first | done | rfl | (simp only [List.length_drop, List.length_take]; rfl)) ?_; (with_reducible refine (span_Print.calls (Int.tmod a0 1125899906842625) t135 t136 _ (Tab.below hTab (by repeat (first | exact HB.out | apply below_alloc | apply pw_below_drewN | apply below_drew1)))  A6.out).mono ?_); rintro e w9 ⟨rfl, hb⟩; refine ⟨_, rfl, ?_⟩; have n0_ := Aside0.mk (below_step (by repeat (first | (with_reducible first | exact HB.out | apply below_alloc | apply pw_below_drewN | apply below_drew1) | exact HB.out)) hb); clear HB; have HB := n0_; clear n0_; (try clear hb); (try clear hb2); (try clear hk); (try clear hi)) | ((with_reducible refine gate_callee (f := 10) rfl ?_); refine goesL_ (some 28) rfl rfl Tryd.func10 (by kernel_rfl) rfl #[.string t135] rfl (by (try simp only [List.map_toArray, List.map_cons, List.map_nil]); first | done | rfl | (simp only [List.length_drop, List.length_take]; rfl)) ?_; (with_reducible refine (span_Parse.calls t135 t137 t138 _ A7.out).mono ?_); rintro e w10 ⟨rfl, hb⟩; refine ⟨_, rfl, ?_⟩; have n0_ := Aside0.mk (below_step (by repeat (first | (with_reducible first | exact HB.out | apply below_alloc | apply pw_below_drewN | apply below_drew1) | exact HB.out)) hb); clear HB; have HB := n0_; clear n0_; (try clear hb); (try clear hb2); (try clear hk); (try clear hi)))
    (try simp only [Act.put, List.setIfInBounds_toArray, List.set_cons_zero, List.set_cons_succ])
    go_cut [46] (fun v46 wc => ∃ (kq : Nat) (x46_7 : Bool), v46 = .bool x46_7 ∧ Aside0 (remontoirlaw02_SpanBack.j0 kq a1 x46_7 = some r) ∧ Aside0 (kq ≤ k) ∧ Aside0 (Below w.heap.size w wc))
    case first =>
      have H := HC8.out
      clear HC8
      by_cases c11 : t136 = true
      · subst c11
        have H1 : (if t138 = 0 then (if t137 = (Int.tmod a0 1125899906842625) then (remontoirlaw02_SpanBack.j0 k a1 (decide ((t135.size : Int) > 40))) else (remontoirlaw02_SpanBack.j0 k a1 true)) else (remontoirlaw02_SpanBack.j0 k a1 true)) = some r := by rw [if_pos rfl] at H; exact H
        clear H
        have H := H1
        clear H1
        by_cases c12 : t138 = 0
        · rw [if_pos c12] at H
          have c12b0 : (t138 == 0) = true := beq_iff_eq.mpr c12
          have c12b1 : (t138 != 0) = false := bne_eq_false_iff_eq.mpr c12
          clear c12
          (first | rw [c12b0] | (simp only [i64_w, i32_w]; rw [c12b0]) | skip)
          by_cases c13 : t137 = (Int.tmod a0 1125899906842625)
          · rw [if_pos c13] at H
            have c13b0 : (t137 == (Int.tmod a0 1125899906842625)) = true := beq_iff_eq.mpr c13
            have c13b1 : (t137 != (Int.tmod a0 1125899906842625)) = false := bne_eq_false_iff_eq.mpr c13
            clear c13
            have H' := Aside0.mk H
            clear H
            go_wp2
            go_meet
            case rel => exact ⟨_, (decide ((t135.size : Int) > 40)), (by first | rfl | (simp; done) | (simp [*]; done)), H', ⟨by first | omega | exact Nat.le_refl _⟩, ⟨by repeat (first | (with_reducible first | exact HB.out | apply below_alloc | apply pw_below_drewN | apply below_drew1) | exact HB.out)⟩⟩
          · rw [if_neg c13] at H
            have c13b0 : (t137 == (Int.tmod a0 1125899906842625)) = false := beq_eq_false_iff_ne.mpr c13
            have c13b1 : (t137 != (Int.tmod a0 1125899906842625)) = true := bne_iff_ne.mpr c13
            have H' := Aside0.mk H
            clear H
            go_wp2
            go_meet
            case rel => exact ⟨_, (true), (by first | rfl | (simp; done) | (simp [*]; done)), H', ⟨by first | omega | exact Nat.le_refl _⟩, ⟨by repeat (first | (with_reducible first | exact HB.out | apply below_alloc | apply pw_below_drewN | apply below_drew1) | exact HB.out)⟩⟩
        · rw [if_neg c12] at H
          have c12b0 : (t138 == 0) = false := beq_eq_false_iff_ne.mpr c12
          have c12b1 : (t138 != 0) = true := bne_iff_ne.mpr c12
          (first | rw [c12b0] | (simp only [i64_w, i32_w]; rw [c12b0]) | skip)
          have H' := Aside0.mk H
          clear H
          go_wp2
          go_meet
          case rel => exact ⟨_, (true), (by first | rfl | (simp; done) | (simp [*]; done)), H', ⟨by first | omega | exact Nat.le_refl _⟩, ⟨by repeat (first | (with_reducible first | exact HB.out | apply below_alloc | apply pw_below_drewN | apply below_drew1) | exact HB.out)⟩⟩
      · replace c11 := Bool.eq_false_iff.mpr c11
        subst c11
        have H1 : (remontoirlaw02_SpanBack.j0 k a1 true) = some r := by rw [if_neg (show ¬ (false = true) by decide)] at H; exact H
        clear H
        have H := H1
        clear H1
        have H' := Aside0.mk H
        clear H
        go_wp2
        go_meet
        case rel => exact ⟨_, (true), (by first | rfl | (simp; done) | (simp [*]; done)), H', ⟨by first | omega | exact Nat.le_refl _⟩, ⟨by repeat (first | (with_reducible first | exact HB.out | apply below_alloc | apply pw_below_drewN | apply below_drew1) | exact HB.out)⟩⟩
    case rest =>
      clear HC8
      try clear c1
      try clear p2
      try clear c3
      try clear c3b0
      try clear c3b1
      try clear c5
      try clear c9
      try clear c10
      try clear c11
      try clear c12
      try clear c12b0
      try clear c12b1
      try clear c13
      try clear c13b0
      try clear c13b1
      obtain ⟨kq, x46_7, rfl, HA, HJ7, HB⟩ := hcut
      cases kq with
      | zero => exact absurd HA.out (by simp [remontoirlaw02_SpanBack.j0])
      | succ kj7 =>
        have H := HA.out
        clear HA
        simp only [remontoirlaw02_SpanBack.j0] at H
        by_cases c14 : x46_7 = true
        · subst c14
          have H1 : (some false) = some r := by rw [if_pos rfl] at H; exact H
          clear H
          have H := H1
          clear H1
          obtain rfl := Option.some.inj H
          go_wp2
          go_ret
          exact ⟨by first | rfl | (simp [errW_none, errW_some] <;> rfl) | (simp [*, errW_none, errW_some] <;> rfl), by repeat (first | (with_reducible first | exact HB.out | apply below_alloc | apply pw_below_drewN | apply below_drew1) | exact HB.out)⟩
        · replace c14 := Bool.eq_false_iff.mpr c14
          subst c14
          have H1 : ((span_Parse.f a1).bind fun bt139 => (if bt139.2 = 0 then ((span_Print.f bt139.1).bind fun bt141 => ((span_Parse.f bt141.1).bind fun bt143 => (if bt139.1 ≤ 1125899906842624 then (if bt141.2 = true then (if bt143.2 = 0 then (if bt143.1 = bt139.1 then ((remontoirlaw02_wakes.f).bind fun t145 => (some t145)) else (some false)) else (some false)) else (some false)) else (some false)))) else ((remontoirlaw02_wakes.f).bind fun t146 => (some t146)))) = some r := by rw [if_neg (show ¬ (false = true) by decide)] at H; exact H
          clear H
          have H := H1
          clear H1
          replace H := Option.bind_eq_some_iff.mp H
          obtain ⟨⟨t139, t140⟩, A150, H⟩ := H
          replace H : (if t140 = 0 then ((span_Print.f t139).bind fun bt141 => ((span_Parse.f bt141.1).bind fun bt143 => (if t139 ≤ 1125899906842624 then (if bt141.2 = true then (if bt143.2 = 0 then (if bt143.1 = t139 then ((remontoirlaw02_wakes.f).bind fun t145 => (some t145)) else (some false)) else (some false)) else (some false)) else (some false)))) else ((remontoirlaw02_wakes.f).bind fun t146 => (some t146))) = some r := H
          have A15 := Aside0.mk A150
          clear A150
          by_cases c16 : t140 = 0
          · rw [if_pos c16] at H
            have c16b0 : (t140 == 0) = true := beq_iff_eq.mpr c16
            have c16b1 : (t140 != 0) = false := bne_eq_false_iff_eq.mpr c16
            clear c16
            replace H := Option.bind_eq_some_iff.mp H
            obtain ⟨⟨t141, t142⟩, A170, H⟩ := H
            replace H : ((span_Parse.f t141).bind fun bt143 => (if t139 ≤ 1125899906842624 then (if t142 = true then (if bt143.2 = 0 then (if bt143.1 = t139 then ((remontoirlaw02_wakes.f).bind fun t145 => (some t145)) else (some false)) else (some false)) else (some false)) else (some false))) = some r := H
            have A17 := Aside0.mk A170
            clear A170
            replace H := Option.bind_eq_some_iff.mp H
            obtain ⟨⟨t143, t144⟩, A180, H⟩ := H
            replace H : (if t139 ≤ 1125899906842624 then (if t142 = true then (if t144 = 0 then (if t143 = t139 then ((remontoirlaw02_wakes.f).bind fun t145 => (some t145)) else (some false)) else (some false)) else (some false)) else (some false)) = some r := H
            have A18 := Aside0.mk A180
            clear A180
            by_cases c19 : t139 ≤ 1125899906842624
            · rw [if_pos c19] at H
              have c19b0 : decide (t139 ≤ 1125899906842624) = true := decide_eq_true c19
              clear c19
              by_cases c20 : t142 = true
              · subst c20
                have H1 : (if t144 = 0 then (if t143 = t139 then ((remontoirlaw02_wakes.f).bind fun t145 => (some t145)) else (some false)) else (some false)) = some r := by rw [if_pos rfl] at H; exact H
                clear H
                have H := H1
                clear H1
                by_cases c21 : t144 = 0
                · rw [if_pos c21] at H
                  have c21b0 : (t144 == 0) = true := beq_iff_eq.mpr c21
                  have c21b1 : (t144 != 0) = false := bne_eq_false_iff_eq.mpr c21
                  clear c21
                  by_cases c22 : t143 = t139
                  · rw [if_pos c22] at H
                    have c22b0 : (t143 == t139) = true := beq_iff_eq.mpr c22
                    have c22b1 : (t143 != t139) = false := bne_eq_false_iff_eq.mpr c22
                    clear c22
                    replace H := Option.bind_eq_some_iff.mp H
                    obtain ⟨t145, A230, H⟩ := H
                    replace H : (some t145) = some r := H
                    have A23 := Aside0.mk A230
                    clear A230
                    obtain rfl := Option.some.inj H
                    go_wp2_with (first | ((with_reducible refine gate_callee (f := 10) rfl ?_); refine goesL_ (some 49) rfl rfl Tryd.func10 (by kernel_rfl) rfl #[.string a1] rfl (by (try simp only [List.map_toArray, List.map_cons, List.map_nil]); first | done | rfl | (simp only [List.length_drop, List.length_take]; rfl)) ?_; (with_reducible refine (span_Parse.calls a1 t139 t140 _ A15.out).mono ?_); rintro e w24 ⟨rfl, hb⟩; refine ⟨_, rfl, ?_⟩; have n0_ := Aside0.mk (below_step (by repeat (first | (with_reducible first | exact HB.out | apply below_alloc | apply pw_below_drewN | apply below_drew1) | exact HB.out)) hb); clear HB; have HB := n0_; clear n0_; (try clear hb); (try clear hb2); (try clear hk); (try clear hi)) | ((with_reducible refine gate_callee (f := 12) rfl ?_); refine goesL_ (some 56) rfl rfl Tryd.func12 (by kernel_rfl) rfl #[.int .u64 t139] rfl (by (try simp only [List.map_toArray, List.map_cons, List.map_nil]); first | done | rfl | (simp only [List.length_drop, List.length_take]; rfl)) ?_; (with_reducible refine (span_Print.calls t139 t141 true _ (Tab.below hTab (by repeat (first | exact HB.out | apply below_alloc | apply pw_below_drewN | apply below_drew1)))  A17.out).mono ?_); rintro e w25 ⟨rfl, hb⟩; refine ⟨_, rfl, ?_⟩; have n0_ := Aside0.mk (below_step (by repeat (first | (with_reducible first | exact HB.out | apply below_alloc | apply pw_below_drewN | apply below_drew1) | exact HB.out)) hb); clear HB; have HB := n0_; clear n0_; (try clear hb); (try clear hb2); (try clear hk); (try clear hi)) | ((with_reducible refine gate_callee (f := 10) rfl ?_); refine goesL_ (some 61) rfl rfl Tryd.func10 (by kernel_rfl) rfl #[.string t141] rfl (by (try simp only [List.map_toArray, List.map_cons, List.map_nil]); first | done | rfl | (simp only [List.length_drop, List.length_take]; rfl)) ?_; (with_reducible refine (span_Parse.calls t141 t143 t144 _ A18.out).mono ?_); rintro e w26 ⟨rfl, hb⟩; refine ⟨_, rfl, ?_⟩; have n0_ := Aside0.mk (below_step (by repeat (first | (with_reducible first | exact HB.out | apply below_alloc | apply pw_below_drewN | apply below_drew1) | exact HB.out)) hb); clear HB; have HB := n0_; clear n0_; (try clear hb); (try clear hb2); (try clear hk); (try clear hi)) | (go_at_call 9; (with_reducible refine (remontoirlaw02_wakes.calls  t145 _ (Tab.below hTab (by repeat (first | exact HB.out | apply below_alloc | apply pw_below_drewN | apply below_drew1)))  A23.out).mono ?_); rintro e w27 ⟨rfl, hb⟩; have n0_ := Aside0.mk (below_step (by repeat (first | (with_reducible first | exact HB.out | apply below_alloc | apply pw_below_drewN | apply below_drew1) | exact HB.out)) hb); clear HB; have HB := n0_; clear n0_; (try clear hb); (try clear hb2); (try clear hk); (try clear hi)))
                    go_ret
                    exact ⟨by first | rfl | (simp [errW_none, errW_some] <;> rfl) | (simp [*, errW_none, errW_some] <;> rfl), by repeat (first | (with_reducible first | exact HB.out | apply below_alloc | apply pw_below_drewN | apply below_drew1) | exact HB.out)⟩
                  · rw [if_neg c22] at H
                    have c22b0 : (t143 == t139) = false := beq_eq_false_iff_ne.mpr c22
                    have c22b1 : (t143 != t139) = true := bne_iff_ne.mpr c22
                    obtain rfl := Option.some.inj H
                    go_wp2_with (first | ((with_reducible refine gate_callee (f := 10) rfl ?_); refine goesL_ (some 49) rfl rfl Tryd.func10 (by kernel_rfl) rfl #[.string a1] rfl (by (try simp only [List.map_toArray, List.map_cons, List.map_nil]); first | done | rfl | (simp only [List.length_drop, List.length_take]; rfl)) ?_; (with_reducible refine (span_Parse.calls a1 t139 t140 _ A15.out).mono ?_); rintro e w28 ⟨rfl, hb⟩; refine ⟨_, rfl, ?_⟩; have n0_ := Aside0.mk (below_step (by repeat (first | (with_reducible first | exact HB.out | apply below_alloc | apply pw_below_drewN | apply below_drew1) | exact HB.out)) hb); clear HB; have HB := n0_; clear n0_; (try clear hb); (try clear hb2); (try clear hk); (try clear hi)) | ((with_reducible refine gate_callee (f := 12) rfl ?_); refine goesL_ (some 56) rfl rfl Tryd.func12 (by kernel_rfl) rfl #[.int .u64 t139] rfl (by (try simp only [List.map_toArray, List.map_cons, List.map_nil]); first | done | rfl | (simp only [List.length_drop, List.length_take]; rfl)) ?_; (with_reducible refine (span_Print.calls t139 t141 true _ (Tab.below hTab (by repeat (first | exact HB.out | apply below_alloc | apply pw_below_drewN | apply below_drew1)))  A17.out).mono ?_); rintro e w29 ⟨rfl, hb⟩; refine ⟨_, rfl, ?_⟩; have n0_ := Aside0.mk (below_step (by repeat (first | (with_reducible first | exact HB.out | apply below_alloc | apply pw_below_drewN | apply below_drew1) | exact HB.out)) hb); clear HB; have HB := n0_; clear n0_; (try clear hb); (try clear hb2); (try clear hk); (try clear hi)) | ((with_reducible refine gate_callee (f := 10) rfl ?_); refine goesL_ (some 61) rfl rfl Tryd.func10 (by kernel_rfl) rfl #[.string t141] rfl (by (try simp only [List.map_toArray, List.map_cons, List.map_nil]); first | done | rfl | (simp only [List.length_drop, List.length_take]; rfl)) ?_; (with_reducible refine (span_Parse.calls t141 t143 t144 _ A18.out).mono ?_); rintro e w30 ⟨rfl, hb⟩; refine ⟨_, rfl, ?_⟩; have n0_ := Aside0.mk (below_step (by repeat (first | (with_reducible first | exact HB.out | apply below_alloc | apply pw_below_drewN | apply below_drew1) | exact HB.out)) hb); clear HB; have HB := n0_; clear n0_; (try clear hb); (try clear hb2); (try clear hk); (try clear hi)))
                    go_ret
                    exact ⟨by first | rfl | (simp [errW_none, errW_some] <;> rfl) | (simp [*, errW_none, errW_some] <;> rfl), by repeat (first | (with_reducible first | exact HB.out | apply below_alloc | apply pw_below_drewN | apply below_drew1) | exact HB.out)⟩
                · rw [if_neg c21] at H
                  have c21b0 : (t144 == 0) = false := beq_eq_false_iff_ne.mpr c21
                  have c21b1 : (t144 != 0) = true := bne_iff_ne.mpr c21
                  obtain rfl := Option.some.inj H
                  go_wp2_with (first | ((with_reducible refine gate_callee (f := 10) rfl ?_); refine goesL_ (some 49) rfl rfl Tryd.func10 (by kernel_rfl) rfl #[.string a1] rfl (by (try simp only [List.map_toArray, List.map_cons, List.map_nil]); first | done | rfl | (simp only [List.length_drop, List.length_take]; rfl)) ?_; (with_reducible refine (span_Parse.calls a1 t139 t140 _ A15.out).mono ?_); rintro e w31 ⟨rfl, hb⟩; refine ⟨_, rfl, ?_⟩; have n0_ := Aside0.mk (below_step (by repeat (first | (with_reducible first | exact HB.out | apply below_alloc | apply pw_below_drewN | apply below_drew1) | exact HB.out)) hb); clear HB; have HB := n0_; clear n0_; (try clear hb); (try clear hb2); (try clear hk); (try clear hi)) | ((with_reducible refine gate_callee (f := 12) rfl ?_); refine goesL_ (some 56) rfl rfl Tryd.func12 (by kernel_rfl) rfl #[.int .u64 t139] rfl (by (try simp only [List.map_toArray, List.map_cons, List.map_nil]); first | done | rfl | (simp only [List.length_drop, List.length_take]; rfl)) ?_; (with_reducible refine (span_Print.calls t139 t141 true _ (Tab.below hTab (by repeat (first | exact HB.out | apply below_alloc | apply pw_below_drewN | apply below_drew1)))  A17.out).mono ?_); rintro e w32 ⟨rfl, hb⟩; refine ⟨_, rfl, ?_⟩; have n0_ := Aside0.mk (below_step (by repeat (first | (with_reducible first | exact HB.out | apply below_alloc | apply pw_below_drewN | apply below_drew1) | exact HB.out)) hb); clear HB; have HB := n0_; clear n0_; (try clear hb); (try clear hb2); (try clear hk); (try clear hi)) | ((with_reducible refine gate_callee (f := 10) rfl ?_); refine goesL_ (some 61) rfl rfl Tryd.func10 (by kernel_rfl) rfl #[.string t141] rfl (by (try simp only [List.map_toArray, List.map_cons, List.map_nil]); first | done | rfl | (simp only [List.length_drop, List.length_take]; rfl)) ?_; (with_reducible refine (span_Parse.calls t141 t143 t144 _ A18.out).mono ?_); rintro e w33 ⟨rfl, hb⟩; refine ⟨_, rfl, ?_⟩; have n0_ := Aside0.mk (below_step (by repeat (first | (with_reducible first | exact HB.out | apply below_alloc | apply pw_below_drewN | apply below_drew1) | exact HB.out)) hb); clear HB; have HB := n0_; clear n0_; (try clear hb); (try clear hb2); (try clear hk); (try clear hi)))
                  go_ret
                  exact ⟨by first | rfl | (simp [errW_none, errW_some] <;> rfl) | (simp [*, errW_none, errW_some] <;> rfl), by repeat (first | (with_reducible first | exact HB.out | apply below_alloc | apply pw_below_drewN | apply below_drew1) | exact HB.out)⟩
              · replace c20 := Bool.eq_false_iff.mpr c20
                subst c20
                have H1 : (some false) = some r := by rw [if_neg (show ¬ (false = true) by decide)] at H; exact H
                clear H
                have H := H1
                clear H1
                obtain rfl := Option.some.inj H
                go_wp2_with (first | ((with_reducible refine gate_callee (f := 10) rfl ?_); refine goesL_ (some 49) rfl rfl Tryd.func10 (by kernel_rfl) rfl #[.string a1] rfl (by (try simp only [List.map_toArray, List.map_cons, List.map_nil]); first | done | rfl | (simp only [List.length_drop, List.length_take]; rfl)) ?_; (with_reducible refine (span_Parse.calls a1 t139 t140 _ A15.out).mono ?_); rintro e w34 ⟨rfl, hb⟩; refine ⟨_, rfl, ?_⟩; have n0_ := Aside0.mk (below_step (by repeat (first | (with_reducible first | exact HB.out | apply below_alloc | apply pw_below_drewN | apply below_drew1) | exact HB.out)) hb); clear HB; have HB := n0_; clear n0_; (try clear hb); (try clear hb2); (try clear hk); (try clear hi)) | ((with_reducible refine gate_callee (f := 12) rfl ?_); refine goesL_ (some 56) rfl rfl Tryd.func12 (by kernel_rfl) rfl #[.int .u64 t139] rfl (by (try simp only [List.map_toArray, List.map_cons, List.map_nil]); first | done | rfl | (simp only [List.length_drop, List.length_take]; rfl)) ?_; (with_reducible refine (span_Print.calls t139 t141 false _ (Tab.below hTab (by repeat (first | exact HB.out | apply below_alloc | apply pw_below_drewN | apply below_drew1)))  A17.out).mono ?_); rintro e w35 ⟨rfl, hb⟩; refine ⟨_, rfl, ?_⟩; have n0_ := Aside0.mk (below_step (by repeat (first | (with_reducible first | exact HB.out | apply below_alloc | apply pw_below_drewN | apply below_drew1) | exact HB.out)) hb); clear HB; have HB := n0_; clear n0_; (try clear hb); (try clear hb2); (try clear hk); (try clear hi)) | ((with_reducible refine gate_callee (f := 10) rfl ?_); refine goesL_ (some 61) rfl rfl Tryd.func10 (by kernel_rfl) rfl #[.string t141] rfl (by (try simp only [List.map_toArray, List.map_cons, List.map_nil]); first | done | rfl | (simp only [List.length_drop, List.length_take]; rfl)) ?_; (with_reducible refine (span_Parse.calls t141 t143 t144 _ A18.out).mono ?_); rintro e w36 ⟨rfl, hb⟩; refine ⟨_, rfl, ?_⟩; have n0_ := Aside0.mk (below_step (by repeat (first | (with_reducible first | exact HB.out | apply below_alloc | apply pw_below_drewN | apply below_drew1) | exact HB.out)) hb); clear HB; have HB := n0_; clear n0_; (try clear hb); (try clear hb2); (try clear hk); (try clear hi)))
                go_ret
                exact ⟨by first | rfl | (simp [errW_none, errW_some] <;> rfl) | (simp [*, errW_none, errW_some] <;> rfl), by repeat (first | (with_reducible first | exact HB.out | apply below_alloc | apply pw_below_drewN | apply below_drew1) | exact HB.out)⟩
            · rw [if_neg c19] at H
              have c19b0 : decide (t139 ≤ 1125899906842624) = false := decide_eq_false c19
              clear c19
              obtain rfl := Option.some.inj H
              go_wp2_with (first | ((with_reducible refine gate_callee (f := 10) rfl ?_); refine goesL_ (some 49) rfl rfl Tryd.func10 (by kernel_rfl) rfl #[.string a1] rfl (by (try simp only [List.map_toArray, List.map_cons, List.map_nil]); first | done | rfl | (simp only [List.length_drop, List.length_take]; rfl)) ?_; (with_reducible refine (span_Parse.calls a1 t139 t140 _ A15.out).mono ?_); rintro e w37 ⟨rfl, hb⟩; refine ⟨_, rfl, ?_⟩; have n0_ := Aside0.mk (below_step (by repeat (first | (with_reducible first | exact HB.out | apply below_alloc | apply pw_below_drewN | apply below_drew1) | exact HB.out)) hb); clear HB; have HB := n0_; clear n0_; (try clear hb); (try clear hb2); (try clear hk); (try clear hi)) | ((with_reducible refine gate_callee (f := 12) rfl ?_); refine goesL_ (some 56) rfl rfl Tryd.func12 (by kernel_rfl) rfl #[.int .u64 t139] rfl (by (try simp only [List.map_toArray, List.map_cons, List.map_nil]); first | done | rfl | (simp only [List.length_drop, List.length_take]; rfl)) ?_; (with_reducible refine (span_Print.calls t139 t141 t142 _ (Tab.below hTab (by repeat (first | exact HB.out | apply below_alloc | apply pw_below_drewN | apply below_drew1)))  A17.out).mono ?_); rintro e w38 ⟨rfl, hb⟩; refine ⟨_, rfl, ?_⟩; have n0_ := Aside0.mk (below_step (by repeat (first | (with_reducible first | exact HB.out | apply below_alloc | apply pw_below_drewN | apply below_drew1) | exact HB.out)) hb); clear HB; have HB := n0_; clear n0_; (try clear hb); (try clear hb2); (try clear hk); (try clear hi)) | ((with_reducible refine gate_callee (f := 10) rfl ?_); refine goesL_ (some 61) rfl rfl Tryd.func10 (by kernel_rfl) rfl #[.string t141] rfl (by (try simp only [List.map_toArray, List.map_cons, List.map_nil]); first | done | rfl | (simp only [List.length_drop, List.length_take]; rfl)) ?_; (with_reducible refine (span_Parse.calls t141 t143 t144 _ A18.out).mono ?_); rintro e w39 ⟨rfl, hb⟩; refine ⟨_, rfl, ?_⟩; have n0_ := Aside0.mk (below_step (by repeat (first | (with_reducible first | exact HB.out | apply below_alloc | apply pw_below_drewN | apply below_drew1) | exact HB.out)) hb); clear HB; have HB := n0_; clear n0_; (try clear hb); (try clear hb2); (try clear hk); (try clear hi)))
              go_ret
              exact ⟨by first | rfl | (simp [errW_none, errW_some] <;> rfl) | (simp [*, errW_none, errW_some] <;> rfl), by repeat (first | (with_reducible first | exact HB.out | apply below_alloc | apply pw_below_drewN | apply below_drew1) | exact HB.out)⟩
          · rw [if_neg c16] at H
            have c16b0 : (t140 == 0) = false := beq_eq_false_iff_ne.mpr c16
            have c16b1 : (t140 != 0) = true := bne_iff_ne.mpr c16
            replace H := Option.bind_eq_some_iff.mp H
            obtain ⟨t146, A400, H⟩ := H
            replace H : (some t146) = some r := H
            have A40 := Aside0.mk A400
            clear A400
            obtain rfl := Option.some.inj H
            go_wp2_with (first | ((with_reducible refine gate_callee (f := 10) rfl ?_); refine goesL_ (some 49) rfl rfl Tryd.func10 (by kernel_rfl) rfl #[.string a1] rfl (by (try simp only [List.map_toArray, List.map_cons, List.map_nil]); first | done | rfl | (simp only [List.length_drop, List.length_take]; rfl)) ?_; (with_reducible refine (span_Parse.calls a1 t139 t140 _ A15.out).mono ?_); rintro e w41 ⟨rfl, hb⟩; refine ⟨_, rfl, ?_⟩; have n0_ := Aside0.mk (below_step (by repeat (first | (with_reducible first | exact HB.out | apply below_alloc | apply pw_below_drewN | apply below_drew1) | exact HB.out)) hb); clear HB; have HB := n0_; clear n0_; (try clear hb); (try clear hb2); (try clear hk); (try clear hi)) | ((with_reducible refine gate_callee (f := 9) rfl ?_); refine goesL_ (some 81) rfl rfl Tryd.func9 (by kernel_rfl) rfl #[] rfl (by (try simp only [List.map_toArray, List.map_cons, List.map_nil]); first | done | rfl | (simp only [List.length_drop, List.length_take]; rfl)) ?_; (with_reducible refine (remontoirlaw02_wakes.calls  t146 _ (Tab.below hTab (by repeat (first | exact HB.out | apply below_alloc | apply pw_below_drewN | apply below_drew1)))  A40.out).mono ?_); rintro e w42 ⟨rfl, hb⟩; refine ⟨_, rfl, ?_⟩; have n0_ := Aside0.mk (below_step (by repeat (first | (with_reducible first | exact HB.out | apply below_alloc | apply pw_below_drewN | apply below_drew1) | exact HB.out)) hb); clear HB; have HB := n0_; clear n0_; (try clear hb); (try clear hb2); (try clear hk); (try clear hi)))
            go_ret
            exact ⟨by first | rfl | (simp [errW_none, errW_some] <;> rfl) | (simp [*, errW_none, errW_some] <;> rfl), by repeat (first | (with_reducible first | exact HB.out | apply below_alloc | apply pw_below_drewN | apply below_drew1) | exact HB.out)⟩

/-- THE ONE PURE STATEMENT of remontoirlaw02_SpanBack: yours. -/
def remontoirlaw02_SpanBack.Pure : Prop := ∀ (a0 : Int) (a1 : ByteArray), (Lit.int .u64 a0).wf = true → a1.size ≤ 140737488351232 → ∃ k, remontoirlaw02_SpanBack.f k a0 a1 = some true
theorem remontoirlaw02_SpanBack.walk (P : remontoirlaw02_SpanBack.Pure) (a0 : Int) (a1 : ByteArray) (w : World) (hTab : Tab w) (w0 : (Lit.int .u64 a0).wf = true) (w1 : a1.size ≤ 140737488351232) :
    Calls Tryd.prog 5 #[.int .u64 a0, .string a1] w fun e w' => e = .returned (.bool true) ∧ Below w.heap.size w w' := by
  obtain ⟨k, h⟩ := P a0 a1 w0 w1
  refine (remontoirlaw02_SpanBack.calls k a0 a1 true w hTab h).mono ?_
  rintro e w' ⟨rfl, hd⟩
  exact ⟨rfl, hd⟩


-- NOT PRINTED: function 6 (remontoirlaw02_SpanSums)

/-! ### remontoirlaw02_SpanCuts: function 7 -/
mutual
def remontoirlaw02_SpanCuts.j0 : Nat → ByteArray → Int → Int → Bool → Option (Bool)
  | 0, _, _, _, _ => none
  | k + 1, x0, x1, x5, x24 => if x24 = true then ((remontoirlaw02_wakes.f).bind fun t149 => (some t149)) else (if (wrap64 ((x0.size : Int) + 1)) = 0 then (none) else (if 0 ≤ (Int.tmod (wrap64 (x1)) (wrap64 ((x0.size : Int) + 1))) then (if (Int.tmod (wrap64 (x1)) (wrap64 ((x0.size : Int) + 1))) ≤ (x0.size : Int) then ((span_Parse.f (x0.extract 0 ((Int.tmod (wrap64 (x1)) (wrap64 ((x0.size : Int) + 1))) : Int).toNat)).bind fun bt150 => (if bt150.2 = 0 then (remontoirlaw02_SpanCuts.j1 k x0 (decide (bt150.1 > x5))) else (remontoirlaw02_SpanCuts.j1 k x0 false))) else (none)) else (none)))
def remontoirlaw02_SpanCuts.j1 : Nat → ByteArray → Bool → Option (Bool)
  | 0, _, _ => none
  | k + 1, x0, x44 => if x44 = true then (some false) else (if x0.size + 1 ≤ 9223372036854775807 then (if x0.size + x0.size ≤ 9223372036854775807 then (if 1 + x0.size ≤ 9223372036854775807 then ((some (([x0 ++ (⟨#[80]⟩ : ByteArray), x0 ++ (⟨#[32]⟩ : ByteArray), x0 ++ x0, (⟨#[32]⟩ : ByteArray) ++ x0, (⟨#[45]⟩ : ByteArray) ++ x0] : List ByteArray) : List ByteArray)).bind fun y152 => (remontoirlaw02_SpanCuts.l0 k y152 (y152.length : Int) 0)) else (none)) else (none)) else (none))
def remontoirlaw02_SpanCuts.l0 : Nat → List ByteArray → Int → Int → Option (Bool)
  | 0, _, _, _ => none
  | k + 1, x56, x57, x58 => if x58 < x57 then (if 0 ≤ x58 then (if x58 < (x56.length : Int) then ((span_Parse.f (rdOf ByteArray.empty x56 x58)).bind fun bt156 => (if bt156.2 = 2 then (if bt156.1 = 0 then (remontoirlaw02_SpanCuts.l0 k x56 x57 (wrap64 (x58 + 1))) else (some false)) else (some false))) else (none)) else (none)) else ((remontoirlaw02_wakes.f).bind fun t158 => (some t158))
end
def remontoirlaw02_SpanCuts.f (k : Nat) (a0 : ByteArray) (a1 : Int) : Option (Bool) := (span_Parse.f a0).bind fun bt147 => (if (a0.size : Int) > 300 then (remontoirlaw02_SpanCuts.j0 k a0 a1 bt147.1 true) else (remontoirlaw02_SpanCuts.j0 k a0 a1 bt147.1 (bt147.2 != 0)))
theorem remontoirlaw02_SpanCuts.mono_l : ∀ k, (∀ y0 y1 y2 y3, LeO (remontoirlaw02_SpanCuts.j0 k y0 y1 y2 y3) (remontoirlaw02_SpanCuts.j0 (k + 1) y0 y1 y2 y3)) ∧ (∀ y0 y1, LeO (remontoirlaw02_SpanCuts.j1 k y0 y1) (remontoirlaw02_SpanCuts.j1 (k + 1) y0 y1)) ∧ (∀ y0 y1 y2, LeO (remontoirlaw02_SpanCuts.l0 k y0 y1 y2) (remontoirlaw02_SpanCuts.l0 (k + 1) y0 y1 y2))
  | 0 => ⟨fun _ _ _ _ r h => by simp [remontoirlaw02_SpanCuts.j0] at h, fun _ _ r h => by simp [remontoirlaw02_SpanCuts.j1] at h, fun _ _ _ r h => by simp [remontoirlaw02_SpanCuts.l0] at h⟩
  | k + 1 => by
    obtain ⟨ih0, ih1, ih2⟩ := remontoirlaw02_SpanCuts.mono_l k
    refine ⟨?_, ?_, ?_⟩
    · intro y0 y1 y2 y3
      unfold remontoirlaw02_SpanCuts.j0
      repeat' first
      | (with_reducible exact ih0 _ _ _ _)
      | (with_reducible exact ih1 _ _)
      | (with_reducible exact ih2 _ _ _)
      | (with_reducible exact LeO.refl _)
      | (with_reducible exact LeO.none _)
      | (with_reducible refine LeO.ite ?_ ?_)
      | (with_reducible refine LeO.bind ?_ (fun _ => ?_))
      | exact ih0 _ _ _ _
      | exact ih1 _ _
      | exact ih2 _ _ _
      | exact LeO.none _
      | refine LeO.ite ?_ ?_
      | refine LeO.bind ?_ (fun _ => ?_)
    · intro y0 y1
      unfold remontoirlaw02_SpanCuts.j1
      repeat' first
      | (with_reducible exact ih0 _ _ _ _)
      | (with_reducible exact ih1 _ _)
      | (with_reducible exact ih2 _ _ _)
      | (with_reducible exact LeO.refl _)
      | (with_reducible exact LeO.none _)
      | (with_reducible refine LeO.ite ?_ ?_)
      | (with_reducible refine LeO.bind ?_ (fun _ => ?_))
      | exact ih0 _ _ _ _
      | exact ih1 _ _
      | exact ih2 _ _ _
      | exact LeO.none _
      | refine LeO.ite ?_ ?_
      | refine LeO.bind ?_ (fun _ => ?_)
    · intro y0 y1 y2
      unfold remontoirlaw02_SpanCuts.l0
      repeat' first
      | (with_reducible exact ih0 _ _ _ _)
      | (with_reducible exact ih1 _ _)
      | (with_reducible exact ih2 _ _ _)
      | (with_reducible exact LeO.refl _)
      | (with_reducible exact LeO.none _)
      | (with_reducible refine LeO.ite ?_ ?_)
      | (with_reducible refine LeO.bind ?_ (fun _ => ?_))
      | exact ih0 _ _ _ _
      | exact ih1 _ _
      | exact ih2 _ _ _
      | exact LeO.none _
      | refine LeO.ite ?_ ?_
      | refine LeO.bind ?_ (fun _ => ?_)
theorem remontoirlaw02_SpanCuts.mono : ∀ a0 a1 k, LeO (remontoirlaw02_SpanCuts.f k a0 a1) (remontoirlaw02_SpanCuts.f (k + 1) a0 a1) := by
  intro a0 a1 k
  obtain ⟨ih0, ih1, ih2⟩ := remontoirlaw02_SpanCuts.mono_l k
  unfold remontoirlaw02_SpanCuts.f
  repeat' first
      | (with_reducible exact ih0 _ _ _ _)
      | (with_reducible exact ih1 _ _)
      | (with_reducible exact ih2 _ _ _)
      | (with_reducible exact LeO.refl _)
      | (with_reducible exact LeO.none _)
      | (with_reducible refine LeO.ite ?_ ?_)
      | (with_reducible refine LeO.bind ?_ (fun _ => ?_))
      | exact ih0 _ _ _ _
      | exact ih1 _ _
      | exact ih2 _ _ _
      | exact LeO.none _
      | refine LeO.ite ?_ ?_
      | refine LeO.bind ?_ (fun _ => ?_)
set_option maxHeartbeats 8000000 in
set_option maxRecDepth 100000 in
theorem remontoirlaw02_SpanCuts.calls (k : Nat) (a0 : ByteArray) (a1 : Int) (r : Bool) (w : World) (hTab : Tab w) (h : remontoirlaw02_SpanCuts.f k a0 a1 = some r) :
    Calls Tryd.prog 7 #[.string a0, .int .u8 a1] w fun e w' => e = .returned (.bool r) ∧ Below w.heap.size w w' := by
  have HB := Aside0.mk (Below.refl w.heap.size w)
  have H : ((span_Parse.f a0).bind fun bt147 => (if (a0.size : Int) > 300 then (remontoirlaw02_SpanCuts.j0 k a0 a1 bt147.1 true) else (remontoirlaw02_SpanCuts.j0 k a0 a1 bt147.1 (bt147.2 != 0)))) = some r := h
  clear h
  replace H := Option.bind_eq_some_iff.mp H
  obtain ⟨⟨t147, t148⟩, A30, H⟩ := H
  replace H : (if (a0.size : Int) > 300 then (remontoirlaw02_SpanCuts.j0 k a0 a1 t147 true) else (remontoirlaw02_SpanCuts.j0 k a0 a1 t147 (t148 != 0))) = some r := H
  have A3 := Aside0.mk A30
  clear A30
  have HC4 := Aside0.mk H
  clear H
  go_enter Tryd.func7, Tryd.ntmps7
  go_upto_region 2 with (first | ((with_reducible refine gate_callee (f := 10) rfl ?_); refine goesL_ (some 15) rfl rfl Tryd.func10 (by kernel_rfl) rfl #[.string a0] rfl (by (try simp only [List.map_toArray, List.map_cons, List.map_nil]); first | done | rfl | (simp only [List.length_drop, List.length_take]; rfl)) ?_; (with_reducible refine (span_Parse.calls a0 t147 t148 _ A3.out).mono ?_); rintro e w5 ⟨rfl, hb⟩; refine ⟨_, rfl, ?_⟩; have n0_ := Aside0.mk (below_step (by repeat (first | (with_reducible first | exact HB.out | apply below_alloc | apply pw_below_drewN | apply below_drew1) | exact HB.out)) hb); clear HB; have HB := n0_; clear n0_; (try clear hb); (try clear hb2); (try clear hk); (try clear hi)))
  (try simp only [Act.put, List.setIfInBounds_toArray, List.set_cons_zero, List.set_cons_succ])
  go_cut [24] (fun v24 wc => ∃ (kq : Nat) (x24_3 : Bool), v24 = .bool x24_3 ∧ Aside0 (remontoirlaw02_SpanCuts.j0 kq a0 a1 t147 x24_3 = some r) ∧ Aside0 (kq ≤ k) ∧ Aside0 (Below w.heap.size w wc))
  case first =>
    have H := HC4.out
    clear HC4
    by_cases c6 : (a0.size : Int) > 300
    · rw [if_pos c6] at H
      have c6b0 : decide (300 < (a0.size : Int)) = true := decide_eq_true c6
      have c6b1 : decide (300 < a0.size) = true := decide_eq_true (by omega)
      clear c6
      (first | rw [c6b0] | (simp only [i64_w, i32_w]; rw [c6b0]) | skip)
      have H' := Aside0.mk H
      clear H
      go_wp2
      go_meet
      case rel => exact ⟨_, (true), (by first | rfl | (simp; done) | (simp [*]; done)), H', ⟨by first | omega | exact Nat.le_refl _⟩, ⟨by repeat (first | (with_reducible first | exact HB.out | apply below_alloc | apply pw_below_drewN | apply below_drew1) | exact HB.out)⟩⟩
    · rw [if_neg c6] at H
      have c6b0 : decide (300 < (a0.size : Int)) = false := decide_eq_false c6
      have c6b1 : decide (300 < a0.size) = false := decide_eq_false (by omega)
      clear c6
      (first | rw [c6b0] | (simp only [i64_w, i32_w]; rw [c6b0]) | skip)
      have H' := Aside0.mk H
      clear H
      go_wp2
      go_meet
      case rel => exact ⟨_, ((t148 != 0)), (by first | rfl | (simp; done) | (simp [*]; done)), H', ⟨by first | omega | exact Nat.le_refl _⟩, ⟨by repeat (first | (with_reducible first | exact HB.out | apply below_alloc | apply pw_below_drewN | apply below_drew1) | exact HB.out)⟩⟩
  case rest =>
    clear HC4
    try clear c1
    try clear p2
    try clear c6
    try clear c6b0
    try clear c6b1
    obtain ⟨kq, x24_3, rfl, HA, HJ3, HB⟩ := hcut
    cases kq with
    | zero => exact absurd HA.out (by simp [remontoirlaw02_SpanCuts.j0])
    | succ kj3 =>
      have H := HA.out
      clear HA
      simp only [remontoirlaw02_SpanCuts.j0] at H
      by_cases c7 : x24_3 = true
      · subst c7
        have H1 : ((remontoirlaw02_wakes.f).bind fun t149 => (some t149)) = some r := by rw [if_pos rfl] at H; exact H
        clear H
        have H := H1
        clear H1
        replace H := Option.bind_eq_some_iff.mp H
        obtain ⟨t149, A80, H⟩ := H
        replace H : (some t149) = some r := H
        have A8 := Aside0.mk A80
        clear A80
        obtain rfl := Option.some.inj H
        go_wp2_with (first | ((with_reducible refine gate_callee (f := 9) rfl ?_); refine goesL_ (some 25) rfl rfl Tryd.func9 (by kernel_rfl) rfl #[] rfl (by (try simp only [List.map_toArray, List.map_cons, List.map_nil]); first | done | rfl | (simp only [List.length_drop, List.length_take]; rfl)) ?_; (with_reducible refine (remontoirlaw02_wakes.calls  t149 _ (Tab.below hTab (by repeat (first | exact HB.out | apply below_alloc | apply pw_below_drewN | apply below_drew1)))  A8.out).mono ?_); rintro e w9 ⟨rfl, hb⟩; refine ⟨_, rfl, ?_⟩; have n0_ := Aside0.mk (below_step (by repeat (first | (with_reducible first | exact HB.out | apply below_alloc | apply pw_below_drewN | apply below_drew1) | exact HB.out)) hb); clear HB; have HB := n0_; clear n0_; (try clear hb); (try clear hb2); (try clear hk); (try clear hi)))
        go_ret
        exact ⟨by first | rfl | (simp [errW_none, errW_some] <;> rfl) | (simp [*, errW_none, errW_some] <;> rfl), by repeat (first | (with_reducible first | exact HB.out | apply below_alloc | apply pw_below_drewN | apply below_drew1) | exact HB.out)⟩
      · replace c7 := Bool.eq_false_iff.mpr c7
        subst c7
        have H1 : (if (wrap64 ((a0.size : Int) + 1)) = 0 then (none) else (if 0 ≤ (Int.tmod (wrap64 (a1)) (wrap64 ((a0.size : Int) + 1))) then (if (Int.tmod (wrap64 (a1)) (wrap64 ((a0.size : Int) + 1))) ≤ (a0.size : Int) then ((span_Parse.f (a0.extract 0 ((Int.tmod (wrap64 (a1)) (wrap64 ((a0.size : Int) + 1))) : Int).toNat)).bind fun bt150 => (if bt150.2 = 0 then (remontoirlaw02_SpanCuts.j1 kj3 a0 (decide (bt150.1 > t147))) else (remontoirlaw02_SpanCuts.j1 kj3 a0 false))) else (none)) else (none))) = some r := by rw [if_neg (show ¬ (false = true) by decide)] at H; exact H
        clear H
        have H := H1
        clear H1
        by_cases c10 : (wrap64 ((a0.size : Int) + 1)) = 0
        · rw [if_pos c10] at H
          exact absurd H (by simp)
        · rw [if_neg c10] at H
          have c10b0 : ((wrap64 ((a0.size : Int) + 1)) == 0) = false := beq_eq_false_iff_ne.mpr c10
          have c10b1 : ((wrap64 ((a0.size : Int) + 1)) != 0) = true := bne_iff_ne.mpr c10
          obtain ⟨ji11, hji11⟩ : ∃ j_ : Int, (Int.tmod (wrap64 (a1)) (wrap64 ((a0.size : Int) + 1))) = j_ := ⟨_, rfl⟩
          replace H : (if 0 ≤ (ji11) then (if (ji11) ≤ (a0.size : Int) then ((span_Parse.f (a0.extract 0 ((ji11) : Int).toNat)).bind fun bt150 => (if bt150.2 = 0 then (remontoirlaw02_SpanCuts.j1 kj3 a0 (decide (bt150.1 > t147))) else (remontoirlaw02_SpanCuts.j1 kj3 a0 false))) else (none)) else (none)) = some r := by first | (rw [hji11] at H; exact H) | (simp only [hji11] at H ⊢; exact H)
          by_cases c12 : 0 ≤ (ji11)
          · rw [if_pos c12] at H
            have c12b0 := eq_true c12
            have c12b1 : decide (0 ≤ (ji11)) = true := decide_eq_true c12
            clear c12
            by_cases c13 : (ji11) ≤ (a0.size : Int)
            · rw [if_pos c13] at H
              have c13b0 := eq_true c13
              have c13b1 : decide ((ji11) ≤ (a0.size : Int)) = true := decide_eq_true c13
              clear c13
              replace H := Option.bind_eq_some_iff.mp H
              obtain ⟨⟨t150, t151⟩, A140, H⟩ := H
              replace H : (if t151 = 0 then (remontoirlaw02_SpanCuts.j1 kj3 a0 (decide (t150 > t147))) else (remontoirlaw02_SpanCuts.j1 kj3 a0 false)) = some r := H
              have A14 := Aside0.mk A140
              clear A140
              have HC15 := Aside0.mk H
              clear H
              go_upto_region 5 with (first | ((with_reducible refine gate_callee (f := 10) rfl ?_); refine goesL_ (some 35) rfl rfl Tryd.func10 (by kernel_rfl) rfl #[.string (a0.extract 0 ((ji11) : Int).toNat)] rfl (by (try simp only [List.map_toArray, List.map_cons, List.map_nil]); first | done | (simp only [hji11]; rfl) | rfl | (simp only [List.length_drop, List.length_take]; rfl)) ?_; (with_reducible refine (span_Parse.calls (a0.extract 0 ((ji11) : Int).toNat) t150 t151 _ A14.out).mono ?_); rintro e w16 ⟨rfl, hb⟩; refine ⟨_, rfl, ?_⟩; have n0_ := Aside0.mk (below_step (by repeat (first | (with_reducible first | exact HB.out | apply below_alloc | apply pw_below_drewN | apply below_drew1) | exact HB.out)) hb); clear HB; have HB := n0_; clear n0_; (try clear hb); (try clear hb2); (try clear hk); (try clear hi)))
              (try simp only [Act.put, List.setIfInBounds_toArray, List.set_cons_zero, List.set_cons_succ])
              go_cut [44] (fun v44 wc => ∃ (kq : Nat) (x44_14 : Bool), v44 = .bool x44_14 ∧ Aside0 (remontoirlaw02_SpanCuts.j1 kq a0 x44_14 = some r) ∧ Aside0 (kq ≤ kj3) ∧ Aside0 (Below w.heap.size w wc))
              case first =>
                have H := HC15.out
                clear HC15
                by_cases c17 : t151 = 0
                · rw [if_pos c17] at H
                  have c17b0 : (t151 == 0) = true := beq_iff_eq.mpr c17
                  have c17b1 : (t151 != 0) = false := bne_eq_false_iff_eq.mpr c17
                  clear c17
                  (first | rw [c17b0] | (simp only [i64_w, i32_w]; rw [c17b0]) | skip)
                  have H' := Aside0.mk H
                  clear H
                  go_wp2
                  go_meet
                  case rel => exact ⟨_, (decide (t150 > t147)), (by first | rfl | (simp; done) | (simp [*]; done)), H', ⟨by have := HJ3.out; first | omega | exact Nat.le_refl _⟩, ⟨by repeat (first | (with_reducible first | exact HB.out | apply below_alloc | apply pw_below_drewN | apply below_drew1) | exact HB.out)⟩⟩
                · rw [if_neg c17] at H
                  have c17b0 : (t151 == 0) = false := beq_eq_false_iff_ne.mpr c17
                  have c17b1 : (t151 != 0) = true := bne_iff_ne.mpr c17
                  (first | rw [c17b0] | (simp only [i64_w, i32_w]; rw [c17b0]) | skip)
                  have H' := Aside0.mk H
                  clear H
                  go_wp2
                  go_meet
                  case rel => exact ⟨_, (false), (by first | rfl | (simp; done) | (simp [*]; done)), H', ⟨by have := HJ3.out; first | omega | exact Nat.le_refl _⟩, ⟨by repeat (first | (with_reducible first | exact HB.out | apply below_alloc | apply pw_below_drewN | apply below_drew1) | exact HB.out)⟩⟩
              case rest =>
                clear HC15
                try clear c1
                try clear p2
                try clear c6
                try clear c6b0
                try clear c6b1
                try clear p6
                try clear c7
                try clear c9
                try clear c10
                try clear c10b0
                try clear c10b1
                try clear c12
                try clear c12b0
                try clear c12b1
                try clear c13
                try clear c13b0
                try clear c13b1
                try clear c17
                try clear c17b0
                try clear c17b1
                try clear p2
                obtain ⟨kq, x44_14, rfl, HA, HJ14, HB⟩ := hcut
                cases kq with
                | zero => exact absurd HA.out (by simp [remontoirlaw02_SpanCuts.j1])
                | succ kj14 =>
                  have H := HA.out
                  clear HA
                  simp only [remontoirlaw02_SpanCuts.j1] at H
                  by_cases c18 : x44_14 = true
                  · subst c18
                    have H1 : (some false) = some r := by rw [if_pos rfl] at H; exact H
                    clear H
                    have H := H1
                    clear H1
                    obtain rfl := Option.some.inj H
                    go_wp2
                    go_ret
                    exact ⟨by first | rfl | (simp [errW_none, errW_some] <;> rfl) | (simp only [← hji11]; first | rfl | (simp [errW_none, errW_some] <;> rfl)) | (simp [*, errW_none, errW_some] <;> rfl), by repeat (first | (with_reducible first | exact HB.out | apply below_alloc | apply pw_below_drewN | apply below_drew1) | exact HB.out)⟩
                  · replace c18 := Bool.eq_false_iff.mpr c18
                    subst c18
                    have H1 : (if a0.size + 1 ≤ 9223372036854775807 then (if a0.size + a0.size ≤ 9223372036854775807 then (if 1 + a0.size ≤ 9223372036854775807 then ((some (([a0 ++ (⟨#[80]⟩ : ByteArray), a0 ++ (⟨#[32]⟩ : ByteArray), a0 ++ a0, (⟨#[32]⟩ : ByteArray) ++ a0, (⟨#[45]⟩ : ByteArray) ++ a0] : List ByteArray) : List ByteArray)).bind fun y152 => (remontoirlaw02_SpanCuts.l0 kj14 y152 (y152.length : Int) 0)) else (none)) else (none)) else (none)) = some r := by rw [if_neg (show ¬ (false = true) by decide)] at H; exact H
                    clear H
                    have H := H1
                    clear H1
                    by_cases c19 : a0.size + 1 ≤ 9223372036854775807
                    · rw [if_pos c19] at H
                      have c19b0 := eq_true c19
                      have c19b1 : decide (a0.size + 1 ≤ 9223372036854775807) = true := decide_eq_true c19
                      try have c19b2 : (9223372036854775807 < a0.size + 1) = False := eq_false (Nat.not_lt.2 c19)
                      by_cases c20 : a0.size + a0.size ≤ 9223372036854775807
                      · rw [if_pos c20] at H
                        have c20b0 := eq_true c20
                        have c20b1 : decide (a0.size + a0.size ≤ 9223372036854775807) = true := decide_eq_true c20
                        try have c20b2 : (9223372036854775807 < a0.size + a0.size) = False := eq_false (Nat.not_lt.2 c20)
                        by_cases c21 : 1 + a0.size ≤ 9223372036854775807
                        · rw [if_pos c21] at H
                          have c21b0 := eq_true c21
                          have c21b1 : decide (1 + a0.size ≤ 9223372036854775807) = true := decide_eq_true c21
                          try have c21b2 : (9223372036854775807 < 1 + a0.size) = False := eq_false (Nat.not_lt.2 c21)
                          obtain ⟨y152, hy152⟩ : ∃ y_ : List ByteArray, y_ = (([a0 ++ (⟨#[80]⟩ : ByteArray), a0 ++ (⟨#[32]⟩ : ByteArray), a0 ++ a0, (⟨#[32]⟩ : ByteArray) ++ a0, (⟨#[45]⟩ : ByteArray) ++ a0] : List ByteArray)) := ⟨_, rfl⟩
                          replace H : (remontoirlaw02_SpanCuts.l0 kj14 y152 (y152.length : Int) 0) = some r := by first | (rw [hy152]; with_reducible exact H) | (have H2_ := (Option.bind_some _ _).symm.trans H; rw [hy152]; with_reducible exact H2_) | (have H2_ := (Option.bind_some _ _).symm.trans H; with_reducible exact H2_) | with_reducible exact H | (rw [hy152]; exact H) | exact H
                          have Ny152 := Aside0.mk hy152
                          clear hy152
                          have H' := Aside0.mk H
                          clear H
                          go_wp2_with (first | ((with_reducible refine gate_dst (N := 56) rfl ?_); refine Kd.R_lit Kd.string _ 9 ?hg (N := 56) ?hd (xs := ([a0 ++ (⟨#[80]⟩ : ByteArray), a0 ++ (⟨#[32]⟩ : ByteArray), a0 ++ a0, (⟨#[32]⟩ : ByteArray) ++ a0, (⟨#[45]⟩ : ByteArray) ++ a0] : List ByteArray)) (inner := [.string (a0 ++ (⟨#[80]⟩ : ByteArray)), .string (a0 ++ (⟨#[32]⟩ : ByteArray)), .string (a0 ++ a0), .string ((⟨#[32]⟩ : ByteArray) ++ a0), .string ((⟨#[45]⟩ : ByteArray) ++ a0)]) (ok := fun _ => True) (okp := fun _ => True) ?hr ?hp (fun _ hk => hk) trivial (Below.refl _ _) (Nat.le_refl _) (by simp) ?_; (case hd => rfl); (case hg => rfl); (case hr => first | (go_simp; done) | (go_simp; rfl)); (case hp => exact (Reps.one (show Kd.M Kd.string _ _ _ (a0 ++ (⟨#[80]⟩ : ByteArray)) [.string (a0 ++ (⟨#[80]⟩ : ByteArray))] from rfl) (Reps.one (show Kd.M Kd.string _ _ _ (a0 ++ (⟨#[32]⟩ : ByteArray)) [.string (a0 ++ (⟨#[32]⟩ : ByteArray))] from rfl) (Reps.one (show Kd.M Kd.string _ _ _ (a0 ++ a0) [.string (a0 ++ a0)] from rfl) (Reps.one (show Kd.M Kd.string _ _ _ ((⟨#[32]⟩ : ByteArray) ++ a0) [.string ((⟨#[32]⟩ : ByteArray) ++ a0)] from rfl) (Reps.one (show Kd.M Kd.string _ _ _ ((⟨#[45]⟩ : ByteArray) ++ a0) [.string ((⟨#[45]⟩ : ByteArray) ++ a0)] from rfl) (Reps.none _ _))))))); intro v153 w22 ho23 hb hg_ hnew_; clear hg_ hnew_; (first | rw [← Ny152.out] at ho23 | (simp only [Int.reduceToNat] at ho23; rw [← Ny152.out] at ho23)); have n0_ := Aside0.mk (Kd.R_lower ho23 (below_size (by repeat (first | (with_reducible first | exact HB.out | apply below_alloc | apply pw_below_drewN | apply below_drew1) | exact HB.out)))); have n1_ := Aside0.mk (below_step (by repeat (first | (with_reducible first | exact HB.out | apply below_alloc | apply pw_below_drewN | apply below_drew1) | exact HB.out)) hb); clear HB; have HO154 := n0_; have HB := n1_; clear n0_ n1_; clear hb ho23; obtain ⟨Ao24, co24, eo24⟩ := Kd.R_slice HO154.out; subst eo24))
                          go_loopg [58] kj14 (fun kq v58 w' => ∃ (x58_3 : Int), v58 = .int .i64 x58_3 ∧ Aside0 (remontoirlaw02_SpanCuts.l0 kq y152 (y152.length : Int) x58_3 = some r) ∧ Aside0 (kq ≤ kj14) ∧ Aside0 (Kd.R Kd.string 9 w' w.heap.size (fun _ => True) (.slice Ao24 y152.length co24) y152) ∧ Aside0 (Below w.heap.size w w'))
                          case atStart => exact ⟨(0), (by first | rfl | (simp; done) | (simp [*]; done)), H', ⟨Nat.le_refl _⟩, ⟨by (with_reducible repeat (first | apply Kd.R_alloc | apply Kd.R_drewN | apply Kd.R_drew)); exact HO154.out⟩, ⟨by repeat (first | (with_reducible first | exact HB.out | apply below_alloc | apply pw_below_drewN | apply below_drew1) | exact HB.out)⟩⟩
                          case round =>
                            clear H'
                            try clear c1
                            try clear c2
                            try clear p2
                            try clear c6
                            try clear c6b0
                            try clear c6b1
                            try clear p6
                            try clear c7
                            try clear c9
                            try clear c10
                            try clear c10b0
                            try clear c10b1
                            try clear c12
                            try clear c12b0
                            try clear c12b1
                            try clear c13
                            try clear c13b0
                            try clear c13b1
                            try clear c17
                            try clear c17b0
                            try clear c17b1
                            try clear c18
                            try clear c19
                            try clear c19b0
                            try clear c19b1
                            try clear c19b2
                            try clear c20
                            try clear c20b0
                            try clear c20b1
                            try clear c20b2
                            try clear c21
                            try clear c21b0
                            try clear c21b1
                            try clear c21b2
                            try clear p2
                            try clear p6
                            obtain ⟨x58_3, rfl, HA, HK3, HO_56, HB⟩ := hrel
                            cases gk with
                            | zero => exact absurd HA.out (by simp [remontoirlaw02_SpanCuts.l0])
                            | succ k3 =>
                              have H := HA.out
                              clear HA
                              simp only [remontoirlaw02_SpanCuts.l0] at H
                              by_cases c25 : x58_3 < (y152.length : Int)
                              · rw [if_pos c25] at H
                                have c25b0 : decide (x58_3 < (y152.length : Int)) = true := decide_eq_true c25
                                clear c25
                                by_cases c26 : 0 ≤ x58_3
                                · rw [if_pos c26] at H
                                  have c26b0 : decide (0 ≤ x58_3) = true := decide_eq_true c26
                                  clear c26
                                  by_cases c27 : x58_3 < (y152.length : Int)
                                  · rw [if_pos c27] at H
                                    have c27b0 : decide (x58_3 < (y152.length : Int)) = true := decide_eq_true c27
                                    clear c27
                                    replace H := Option.bind_eq_some_iff.mp H
                                    obtain ⟨⟨t156, t157⟩, A280, H⟩ := H
                                    replace H : (if t157 = 2 then (if t156 = 0 then (remontoirlaw02_SpanCuts.l0 k3 y152 (y152.length : Int) (wrap64 (x58_3 + 1))) else (some false)) else (some false)) = some r := H
                                    have A28 := Aside0.mk A280
                                    clear A280
                                    by_cases c29 : t157 = 2
                                    · rw [if_pos c29] at H
                                      have c29b0 : (t157 == 2) = true := beq_iff_eq.mpr c29
                                      have c29b1 : (t157 != 2) = false := bne_eq_false_iff_eq.mpr c29
                                      clear c29
                                      by_cases c30 : t156 = 0
                                      · rw [if_pos c30] at H
                                        have c30b0 : (t156 == 0) = true := beq_iff_eq.mpr c30
                                        have c30b1 : (t156 != 0) = false := bne_eq_false_iff_eq.mpr c30
                                        clear c30
                                        have H' := Aside0.mk H
                                        clear H
                                        have p155 : 0 ≤ (x58_3 : Int) := of_decide_eq_true (by first | (with_reducible assumption) | assumption)
                                        have q155 : x58_3 < (y152.length : Int) := of_decide_eq_true (by first | (with_reducible assumption) | assumption)
                                        obtain ⟨ad155, e155, hx155_0⟩ := Kd.at_string (Kd.R_reads' HO_56.out).2.2 x58_3 p155 q155
                                        cases e155
                                        replace p155 := eq_true p155
                                        replace q155 := eq_true q155
                                        go_wp2_with (first | ((with_reducible refine gate_callee (f := 10) rfl ?_); refine goesL_ (some 64) rfl rfl Tryd.func10 (by kernel_rfl) rfl #[.string (rdOf ByteArray.empty y152 x58_3)] rfl (by (try simp only [List.map_toArray, List.map_cons, List.map_nil]); first | done | rfl | (simp only [List.length_drop, List.length_take]; rfl)) ?_; (with_reducible refine (span_Parse.calls (rdOf ByteArray.empty y152 x58_3) t156 t157 _ A28.out).mono ?_); rintro e w31 ⟨rfl, hb⟩; refine ⟨_, rfl, ?_⟩; have n0_ := Aside0.mk (Kd.R_below (by (with_reducible repeat (first | apply Kd.R_alloc | apply Kd.R_drewN | apply Kd.R_drew)); exact HO_56.out) hb); have n1_ := Aside0.mk (below_step (by repeat (first | (with_reducible first | exact HB.out | apply below_alloc | apply pw_below_drewN | apply below_drew1) | exact HB.out)) hb); clear HO_56; clear HB; have HO_56 := n0_; have HB := n1_; clear n0_ n1_; (try clear hb); (try clear hb2); (try clear hk); (try clear hi)))
                                        go_roundg k3
                                        case measure => have := HJ3.out; have := HJ14.out; have := HK3.out; omega
                                        case rel => exact ⟨(wrap64 (x58_3 + 1)), (by first | rfl | (simp; done) | (simp [*]; done)), H', ⟨by have := HJ3.out; have := HJ14.out; have := HK3.out; omega⟩, ⟨by (with_reducible repeat (first | apply Kd.R_alloc | apply Kd.R_drewN | apply Kd.R_drew)); exact HO_56.out⟩, ⟨by repeat (first | (with_reducible first | exact HB.out | apply below_alloc | apply pw_below_drewN | apply below_drew1) | exact HB.out)⟩⟩
                                      · rw [if_neg c30] at H
                                        have c30b0 : (t156 == 0) = false := beq_eq_false_iff_ne.mpr c30
                                        have c30b1 : (t156 != 0) = true := bne_iff_ne.mpr c30
                                        obtain rfl := Option.some.inj H
                                        have p155 : 0 ≤ (x58_3 : Int) := of_decide_eq_true (by first | (with_reducible assumption) | assumption)
                                        have q155 : x58_3 < (y152.length : Int) := of_decide_eq_true (by first | (with_reducible assumption) | assumption)
                                        obtain ⟨ad155, e155, hx155_0⟩ := Kd.at_string (Kd.R_reads' HO_56.out).2.2 x58_3 p155 q155
                                        cases e155
                                        replace p155 := eq_true p155
                                        replace q155 := eq_true q155
                                        go_wp2_with (first | ((with_reducible refine gate_callee (f := 10) rfl ?_); refine goesL_ (some 64) rfl rfl Tryd.func10 (by kernel_rfl) rfl #[.string (rdOf ByteArray.empty y152 x58_3)] rfl (by (try simp only [List.map_toArray, List.map_cons, List.map_nil]); first | done | rfl | (simp only [List.length_drop, List.length_take]; rfl)) ?_; (with_reducible refine (span_Parse.calls (rdOf ByteArray.empty y152 x58_3) t156 t157 _ A28.out).mono ?_); rintro e w32 ⟨rfl, hb⟩; refine ⟨_, rfl, ?_⟩; have n0_ := Aside0.mk (Kd.R_below (by (with_reducible repeat (first | apply Kd.R_alloc | apply Kd.R_drewN | apply Kd.R_drew)); exact HO_56.out) hb); have n1_ := Aside0.mk (below_step (by repeat (first | (with_reducible first | exact HB.out | apply below_alloc | apply pw_below_drewN | apply below_drew1) | exact HB.out)) hb); clear HO_56; clear HB; have HO_56 := n0_; have HB := n1_; clear n0_ n1_; (try clear hb); (try clear hb2); (try clear hk); (try clear hi)))
                                        go_ret
                                        exact ⟨by first | rfl | (simp [errW_none, errW_some] <;> rfl) | (simp only [← hji11]; first | rfl | (simp [errW_none, errW_some] <;> rfl)) | (simp [*, errW_none, errW_some] <;> rfl), by repeat (first | (with_reducible first | exact HB.out | apply below_alloc | apply pw_below_drewN | apply below_drew1) | exact HB.out)⟩
                                    · rw [if_neg c29] at H
                                      have c29b0 : (t157 == 2) = false := beq_eq_false_iff_ne.mpr c29
                                      have c29b1 : (t157 != 2) = true := bne_iff_ne.mpr c29
                                      obtain rfl := Option.some.inj H
                                      have p155 : 0 ≤ (x58_3 : Int) := of_decide_eq_true (by first | (with_reducible assumption) | assumption)
                                      have q155 : x58_3 < (y152.length : Int) := of_decide_eq_true (by first | (with_reducible assumption) | assumption)
                                      obtain ⟨ad155, e155, hx155_0⟩ := Kd.at_string (Kd.R_reads' HO_56.out).2.2 x58_3 p155 q155
                                      cases e155
                                      replace p155 := eq_true p155
                                      replace q155 := eq_true q155
                                      go_wp2_with (first | ((with_reducible refine gate_callee (f := 10) rfl ?_); refine goesL_ (some 64) rfl rfl Tryd.func10 (by kernel_rfl) rfl #[.string (rdOf ByteArray.empty y152 x58_3)] rfl (by (try simp only [List.map_toArray, List.map_cons, List.map_nil]); first | done | rfl | (simp only [List.length_drop, List.length_take]; rfl)) ?_; (with_reducible refine (span_Parse.calls (rdOf ByteArray.empty y152 x58_3) t156 t157 _ A28.out).mono ?_); rintro e w33 ⟨rfl, hb⟩; refine ⟨_, rfl, ?_⟩; have n0_ := Aside0.mk (Kd.R_below (by (with_reducible repeat (first | apply Kd.R_alloc | apply Kd.R_drewN | apply Kd.R_drew)); exact HO_56.out) hb); have n1_ := Aside0.mk (below_step (by repeat (first | (with_reducible first | exact HB.out | apply below_alloc | apply pw_below_drewN | apply below_drew1) | exact HB.out)) hb); clear HO_56; clear HB; have HO_56 := n0_; have HB := n1_; clear n0_ n1_; (try clear hb); (try clear hb2); (try clear hk); (try clear hi)))
                                      go_ret
                                      exact ⟨by first | rfl | (simp [errW_none, errW_some] <;> rfl) | (simp only [← hji11]; first | rfl | (simp [errW_none, errW_some] <;> rfl)) | (simp [*, errW_none, errW_some] <;> rfl), by repeat (first | (with_reducible first | exact HB.out | apply below_alloc | apply pw_below_drewN | apply below_drew1) | exact HB.out)⟩
                                  · rw [if_neg c27] at H
                                    exact absurd H (by simp)
                                · rw [if_neg c26] at H
                                  exact absurd H (by simp)
                              · rw [if_neg c25] at H
                                have c25b0 : decide (x58_3 < (y152.length : Int)) = false := decide_eq_false c25
                                clear c25
                                replace H := Option.bind_eq_some_iff.mp H
                                obtain ⟨t158, A340, H⟩ := H
                                replace H : (some t158) = some r := H
                                have A34 := Aside0.mk A340
                                clear A340
                                obtain rfl := Option.some.inj H
                                go_wp2_with (first | ((with_reducible refine gate_callee (f := 9) rfl ?_); refine goesL_ (some 74) rfl rfl Tryd.func9 (by kernel_rfl) rfl #[] rfl (by (try simp only [List.map_toArray, List.map_cons, List.map_nil]); first | done | rfl | (simp only [List.length_drop, List.length_take]; rfl)) ?_; (with_reducible refine (remontoirlaw02_wakes.calls  t158 _ (Tab.below hTab (by repeat (first | exact HB.out | apply below_alloc | apply pw_below_drewN | apply below_drew1)))  A34.out).mono ?_); rintro e w35 ⟨rfl, hb⟩; refine ⟨_, rfl, ?_⟩; have n0_ := Aside0.mk (Kd.R_below (by (with_reducible repeat (first | apply Kd.R_alloc | apply Kd.R_drewN | apply Kd.R_drew)); exact HO_56.out) hb); have n1_ := Aside0.mk (below_step (by repeat (first | (with_reducible first | exact HB.out | apply below_alloc | apply pw_below_drewN | apply below_drew1) | exact HB.out)) hb); clear HO_56; clear HB; have HO_56 := n0_; have HB := n1_; clear n0_ n1_; (try clear hb); (try clear hb2); (try clear hk); (try clear hi)))
                                go_ret
                                exact ⟨by first | rfl | (simp [errW_none, errW_some] <;> rfl) | (simp only [← hji11]; first | rfl | (simp [errW_none, errW_some] <;> rfl)) | (simp [*, errW_none, errW_some] <;> rfl), by repeat (first | (with_reducible first | exact HB.out | apply below_alloc | apply pw_below_drewN | apply below_drew1) | exact HB.out)⟩
                        · rw [if_neg c21] at H
                          exact absurd H (by simp)
                      · rw [if_neg c20] at H
                        exact absurd H (by simp)
                    · rw [if_neg c19] at H
                      exact absurd H (by simp)
            · rw [if_neg c13] at H
              exact absurd H (by simp)
          · rw [if_neg c12] at H
            exact absurd H (by simp)

/-- THE ONE PURE STATEMENT of remontoirlaw02_SpanCuts: yours. -/
def remontoirlaw02_SpanCuts.Pure : Prop := ∀ (a0 : ByteArray) (a1 : Int), a0.size ≤ 140737488351232 → (Lit.int .u8 a1).wf = true → ∃ k, remontoirlaw02_SpanCuts.f k a0 a1 = some true
theorem remontoirlaw02_SpanCuts.walk (P : remontoirlaw02_SpanCuts.Pure) (a0 : ByteArray) (a1 : Int) (w : World) (hTab : Tab w) (w0 : a0.size ≤ 140737488351232) (w1 : (Lit.int .u8 a1).wf = true) :
    Calls Tryd.prog 7 #[.string a0, .int .u8 a1] w fun e w' => e = .returned (.bool true) ∧ Below w.heap.size w w' := by
  obtain ⟨k, h⟩ := P a0 a1 w0 w1
  refine (remontoirlaw02_SpanCuts.calls k a0 a1 true w hTab h).mono ?_
  rintro e w' ⟨rfl, hd⟩
  exact ⟨rfl, hd⟩

end Go.Proofs.YtmjabkegnpinoaaDoor.Q
