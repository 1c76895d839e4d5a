/- What Go functions compute, as plain Lean functions, and that the machine comes to just that: written by wip/tools/printx.py (my run of the printer, with contracts of mine beside it). -/
import Derived.Test.YtpalncojmknlbaaDoorDefNode
import Derived.Test.YtpalncojmknlbaaDoorDefWrite
import Derived.Test.YtpalncojmknlbaaDoorAx2
import Derived.Test.YtpalncojmknlbaaDoorYx0
import Derived.Test.YtpalncojmknlbaaDoorYx4
import Derived.Test.YtpalncojmknlbaaDoorYx5
namespace Go.Proofs.YtpalncojmknlbaaDoor.Y
open Go.Proofs.YtpalncojmknlbaaDoor.Ext Go.Proofs.YtpalncojmknlbaaDoor.A Go.RowKit Go.Proofs.YtpalncojmknlbaaDoorW.PrintWords Go.Proofs.YtpalncojmknlbaaDoorW.PrintLast Go.Proofs.YtpalncojmknlbaaDoorW.PrintMore
attribute [local go_sem] max2_int min2_int max_two min_two max_three min_three max_four min_four   -- for this text's walks alone
set_option linter.unusedVariables false
set_option linter.unusedSimpArgs false

/-! ### remontoirlaw17_DefMany: function 7 -/
mutual
def remontoirlaw17_DefMany.l0 : Nat → Int → Int → ByteArray → Int → Option (Bool)
 | 0, _, _, _, _ => none
 | k + 1, x5, x6, x7, x8 => if x8 < x5 then (if x7.size + 6 ≤ 9223372036854775807 then (remontoirlaw17_DefMany.l0 k x5 x6 (x7 ++ (⟨#[97, 110, 100, 32, 48, 10]⟩ : ByteArray)) (wrap64 (x8 + 1))) else (none)) else (remontoirlaw17_DefMany.l1 k x5 x6 x7 0)
def remontoirlaw17_DefMany.l1 : Nat → Int → Int → ByteArray → Int → Option (Bool)
 | 0, _, _, _, _ => none
 | k + 1, x5, x6, x7, x9 => if x9 < x6 then (if x7.size + 9 ≤ 9223372036854775807 then (remontoirlaw17_DefMany.l1 k x5 x6 (x7 ++ (⟨#[102, 108, 111, 119, 32, 49, 32, 50, 10]⟩ : ByteArray)) (wrap64 (x9 + 1))) else (none)) else ((def_Parse.f k x7).bind fun bt466 => (if x5 > 60 then (if bt466.2.2.2.2 = 15 then (if bt466.2.2.2.1 = 62 then (if (bt466.2.1.length : Int) = 0 then ((remontoirlaw17_wakes.f k).bind fun t476 => (some t476)) else (some false)) else (some false)) else (some false)) else (if x6 > 90 then (if bt466.2.2.2.2 = 15 then (if bt466.2.2.2.1 = (wrap64 ((wrap64 (x5 + 90)) + 2)) then (if (bt466.2.2.1.length : Int) = 0 then ((remontoirlaw17_wakes.f k).bind fun t477 => (some t477)) else (some false)) else (some false)) else (some false)) else (if bt466.2.2.2.2 = 0 then (if bt466.2.2.2.1 = 0 then (if (bt466.2.1.length : Int) = x5 then (if (bt466.2.2.1.length : Int) = x6 then ((remontoirlaw17_wakes.f k).bind fun t478 => (some t478)) else (some false)) else (some false)) else (some false)) else (some false)))))
end
def remontoirlaw17_DefMany.f (k : Nat) (a0 : Int) (a1 : Int) : Option (Bool) := remontoirlaw17_DefMany.l0 k (Int.tmod (wrap64 (a0)) 62) (Int.tmod (wrap64 (a1)) 92) (⟨#[112, 114, 111, 99, 101, 115, 115, 32, 112, 10]⟩ : ByteArray) 0
theorem remontoirlaw17_DefMany.mono_l : ∀ k, (∀ y0 y1 y2 y3, LeO (remontoirlaw17_DefMany.l0 k y0 y1 y2 y3) (remontoirlaw17_DefMany.l0 (k + 1) y0 y1 y2 y3)) ∧ (∀ y0 y1 y2 y3, LeO (remontoirlaw17_DefMany.l1 k y0 y1 y2 y3) (remontoirlaw17_DefMany.l1 (k + 1) y0 y1 y2 y3))
 | 0 => ⟨fun _ _ _ _ r h => by simp [remontoirlaw17_DefMany.l0] at h, fun _ _ _ _ r h => by simp [remontoirlaw17_DefMany.l1] at h⟩
 | k + 1 => by
  obtain ⟨ih0, ih1⟩ := remontoirlaw17_DefMany.mono_l k
  refine ⟨?_, ?_⟩
  ·
   intro y0 y1 y2 y3
   unfold remontoirlaw17_DefMany.l0
   repeat' first
   | (with_reducible exact ih0 _ _ _ _)
   | (with_reducible exact ih1 _ _ _ _)
   | (with_reducible exact def_Parse.mono _ _)
   | (with_reducible exact remontoirlaw17_wakes.mono _)
   | (with_reducible exact LeO.refl _)
   | (with_reducible exact LeO.none _)
   | (with_reducible refine LeO.ite ?_ ?_)
   | (with_reducible refine LeO.bind ?_ (fun _ => ?_))
   | exact ih0 _ _ _ _
   | exact ih1 _ _ _ _
   | exact def_Parse.mono _ _
   | exact remontoirlaw17_wakes.mono _
   | exact LeO.none _
   | refine LeO.ite ?_ ?_
   | refine LeO.bind ?_ (fun _ => ?_)
  ·
   intro y0 y1 y2 y3
   unfold remontoirlaw17_DefMany.l1
   repeat' first
   | (with_reducible exact ih0 _ _ _ _)
   | (with_reducible exact ih1 _ _ _ _)
   | (with_reducible exact def_Parse.mono _ _)
   | (with_reducible exact remontoirlaw17_wakes.mono _)
   | (with_reducible exact LeO.refl _)
   | (with_reducible exact LeO.none _)
   | (with_reducible refine LeO.ite ?_ ?_)
   | (with_reducible refine LeO.bind ?_ (fun _ => ?_))
   | exact ih0 _ _ _ _
   | exact ih1 _ _ _ _
   | exact def_Parse.mono _ _
   | exact remontoirlaw17_wakes.mono _
   | exact LeO.none _
   | refine LeO.ite ?_ ?_
   | refine LeO.bind ?_ (fun _ => ?_)
theorem remontoirlaw17_DefMany.mono : ∀ a0 a1 k, LeO (remontoirlaw17_DefMany.f k a0 a1) (remontoirlaw17_DefMany.f (k + 1) a0 a1) := by
 intro a0 a1 k
 obtain ⟨ih0, ih1⟩ := remontoirlaw17_DefMany.mono_l k
 unfold remontoirlaw17_DefMany.f
 repeat' first
   | (with_reducible exact ih0 _ _ _ _)
   | (with_reducible exact ih1 _ _ _ _)
   | (with_reducible exact def_Parse.mono _ _)
   | (with_reducible exact remontoirlaw17_wakes.mono _)
   | (with_reducible exact LeO.refl _)
   | (with_reducible exact LeO.none _)
   | (with_reducible refine LeO.ite ?_ ?_)
   | (with_reducible refine LeO.bind ?_ (fun _ => ?_))
   | exact ih0 _ _ _ _
   | exact ih1 _ _ _ _
   | exact def_Parse.mono _ _
   | exact remontoirlaw17_wakes.mono _
   | exact LeO.none _
   | refine LeO.ite ?_ ?_
   | refine LeO.bind ?_ (fun _ => ?_)
set_option maxHeartbeats 8000000 in
set_option maxRecDepth 100000 in
theorem remontoirlaw17_DefMany.calls (k : Nat) (a0 : Int) (a1 : Int) (r : Bool) (w : World) (hTab : Tab w) (hr_ : r = true) (h : remontoirlaw17_DefMany.f k a0 a1 = some r) :
  Calls Tryd.prog 7 #[.int .u8 a0, .int .u8 a1] w fun e w' => e = .returned (.bool r) ∧ Below w.heap.size w w' := by
 have hu25 := Tryd.underlying25
 have HB := Aside0.mk (Below.refl w.heap.size w)
 have H : (remontoirlaw17_DefMany.l0 k (Int.tmod (wrap64 (a0)) 62) (Int.tmod (wrap64 (a1)) 92) (⟨#[112, 114, 111, 99, 101, 115, 115, 32, 112, 10]⟩ : ByteArray) 0) = some r := h
 clear h
 have H' := Aside0.mk H
 clear H
 go_enter Tryd.func7, Tryd.ntmps7
 go_wp2
 go_loopg [7, 8] k (fun kq v7 v8 w' => ∃ (x7_1 : ByteArray) (x8_1 : Int), v7 = .string x7_1 ∧ v8 = .int .i64 x8_1 ∧ Aside0 (remontoirlaw17_DefMany.l0 kq (Int.tmod (wrap64 (a0)) 62) (Int.tmod (wrap64 (a1)) 92) x7_1 x8_1 = some r) ∧ Aside0 (kq ≤ k) ∧ Aside0 (Below w.heap.size w w'))
 case atStart => exact ⟨((⟨#[112, 114, 111, 99, 101, 115, 115, 32, 112, 10]⟩ : ByteArray)), (0), (by first | rfl | (simp; done) | (simp [*]; done)), (by first | rfl | (simp; done) | (simp [*]; done)), H', ⟨Nat.le_refl _⟩, ⟨by repeat (first | (with_reducible first | exact HB.out | apply below_alloc | apply pw_below_drewN | apply below_drew1) | exact HB.out)⟩⟩
 case round =>
  clear H'
  try clear p2
  obtain ⟨x7_1, x8_1, rfl, rfl, HA, HK1, HB⟩ := hrel
  cases gk with
  | zero => exact absurd HA.out (by simp [remontoirlaw17_DefMany.l0])
  | succ k1 =>
   have H := HA.out
   clear HA
   simp only [remontoirlaw17_DefMany.l0] at H
   by_cases c3 : x8_1 < (Int.tmod (wrap64 (a0)) 62)
   ·
    rw [if_pos c3] at H
    have c3b0 : decide (x8_1 < (Int.tmod (wrap64 (a0)) 62)) = true := decide_eq_true c3
    clear c3
    by_cases c4 : x7_1.size + 6 ≤ 9223372036854775807
    ·
     rw [if_pos c4] at H
     have c4b0 := eq_true c4
     have c4b1 : decide (x7_1.size + 6 ≤ 9223372036854775807) = true := decide_eq_true c4
     try have c4b2 : (9223372036854775807 < x7_1.size + 6) = False := eq_false (Nat.not_lt.2 c4)
     have H' := Aside0.mk H
     clear H
     go_wp2
     go_roundg k1
     case measure => have := HK1.out; omega
     case rel => exact ⟨(x7_1 ++ (⟨#[97, 110, 100, 32, 48, 10]⟩ : ByteArray)), (wrap64 (x8_1 + 1)), (by first | rfl | (simp; done) | (simp [*]; done)), (by first | rfl | (simp; done) | (simp [*]; done)), H', ⟨by have := HK1.out; omega⟩, ⟨by repeat (first | (with_reducible first | exact HB.out | apply below_alloc | apply pw_below_drewN | apply below_drew1) | exact HB.out)⟩⟩
    ·
     rw [if_neg c4] at H
     exact absurd H (by simp)
   ·
    rw [if_neg c3] at H
    have c3b0 : decide (x8_1 < (Int.tmod (wrap64 (a0)) 62)) = false := decide_eq_false c3
    clear c3
    have H' := Aside0.mk H
    clear H
    go_wp2
    go_loopg [7, 9] k1 (fun kq v7 v9 w' => ∃ (x7_2 : ByteArray) (x9_2 : Int), v7 = .string x7_2 ∧ v9 = .int .i64 x9_2 ∧ Aside0 (remontoirlaw17_DefMany.l1 kq (Int.tmod (wrap64 (a0)) 62) (Int.tmod (wrap64 (a1)) 92) x7_2 x9_2 = some r) ∧ Aside0 (kq ≤ k1) ∧ Aside0 (Below w.heap.size w w'))
    case atStart => exact ⟨(x7_1), (0), (by first | rfl | (simp; done) | (simp [*]; done)), (by first | rfl | (simp; done) | (simp [*]; done)), H', ⟨Nat.le_refl _⟩, ⟨by repeat (first | (with_reducible first | exact HB.out | apply below_alloc | apply pw_below_drewN | apply below_drew1) | exact HB.out)⟩⟩
    case round =>
     clear H'
     try clear p2
     try clear c3
     try clear c3b0
     try clear c4
     try clear c4b0
     try clear c4b1
     try clear c4b2
     try clear p2
     obtain ⟨x7_2, x9_2, rfl, rfl, HA, HK2, HB⟩ := hrel
     cases gk with
     | zero => exact absurd HA.out (by simp [remontoirlaw17_DefMany.l1])
     | succ k2 =>
      have H := HA.out
      clear HA
      simp only [remontoirlaw17_DefMany.l1] at H
      by_cases c5 : x9_2 < (Int.tmod (wrap64 (a1)) 92)
      ·
       rw [if_pos c5] at H
       have c5b0 : decide (x9_2 < (Int.tmod (wrap64 (a1)) 92)) = true := decide_eq_true c5
       clear c5
       by_cases c6 : x7_2.size + 9 ≤ 9223372036854775807
       ·
        rw [if_pos c6] at H
        have c6b0 := eq_true c6
        have c6b1 : decide (x7_2.size + 9 ≤ 9223372036854775807) = true := decide_eq_true c6
        try have c6b2 : (9223372036854775807 < x7_2.size + 9) = False := eq_false (Nat.not_lt.2 c6)
        have H' := Aside0.mk H
        clear H
        go_wp2
        go_roundg k2
        case measure => have := HK1.out; have := HK2.out; omega
        case rel => exact ⟨(x7_2 ++ (⟨#[102, 108, 111, 119, 32, 49, 32, 50, 10]⟩ : ByteArray)), (wrap64 (x9_2 + 1)), (by first | rfl | (simp; done) | (simp [*]; done)), (by first | rfl | (simp; done) | (simp [*]; done)), H', ⟨by have := HK1.out; have := HK2.out; omega⟩, ⟨by repeat (first | (with_reducible first | exact HB.out | apply below_alloc | apply pw_below_drewN | apply below_drew1) | exact HB.out)⟩⟩
       ·
        rw [if_neg c6] at H
        exact absurd H (by simp)
      ·
       rw [if_neg c5] at H
       have c5b0 : decide (x9_2 < (Int.tmod (wrap64 (a1)) 92)) = false := decide_eq_false c5
       clear c5
       replace H := Option.bind_eq_some_iff.mp H
       obtain ⟨⟨t466, t467, t470, t473, t474⟩, A70, H⟩ := H
       replace H : (if (Int.tmod (wrap64 (a0)) 62) > 60 then (if t474 = 15 then (if t473 = 62 then (if (t467.length : Int) = 0 then ((remontoirlaw17_wakes.f k2).bind fun t476 => (some t476)) else (some false)) else (some false)) else (some false)) else (if (Int.tmod (wrap64 (a1)) 92) > 90 then (if t474 = 15 then (if t473 = (wrap64 ((wrap64 ((Int.tmod (wrap64 (a0)) 62) + 90)) + 2)) then (if (t470.length : Int) = 0 then ((remontoirlaw17_wakes.f k2).bind fun t477 => (some t477)) else (some false)) else (some false)) else (some false)) else (if t474 = 0 then (if t473 = 0 then (if (t467.length : Int) = (Int.tmod (wrap64 (a0)) 62) then (if (t470.length : Int) = (Int.tmod (wrap64 (a1)) 92) then ((remontoirlaw17_wakes.f k2).bind fun t478 => (some t478)) else (some false)) else (some false)) else (some false)) else (some false)))) = some r := H
       have A7 := Aside0.mk A70
       clear A70
       by_cases c8 : (Int.tmod (wrap64 (a0)) 62) > 60
       ·
        rw [if_pos c8] at H
        have c8b0 : decide (60 < (Int.tmod (wrap64 (a0)) 62)) = true := decide_eq_true c8
        clear c8
        by_cases c9 : t474 = 15
        ·
         rw [if_pos c9] at H
         have c9b0 : (t474 == 15) = true := beq_iff_eq.mpr c9
         have c9b1 : (t474 != 15) = false := bne_eq_false_iff_eq.mpr c9
         clear c9
         by_cases c10 : t473 = 62
         ·
          rw [if_pos c10] at H
          have c10b0 : (t473 == 62) = true := beq_iff_eq.mpr c10
          have c10b1 : (t473 != 62) = false := bne_eq_false_iff_eq.mpr c10
          clear c10
          by_cases c11 : (t467.length : Int) = 0
          ·
           rw [if_pos c11] at H
           have c11b0 : ((t467.length : Int) == 0) = true := beq_iff_eq.mpr c11
           have c11b1 : ((t467.length : Int) != 0) = false := bne_eq_false_iff_eq.mpr c11
           clear c11
           replace H := Option.bind_eq_some_iff.mp H
           obtain ⟨t476, A120, H⟩ := H
           replace H : (some t476) = some r := H
           have A12 := Aside0.mk A120
           clear A120
           obtain rfl := Option.some.inj H
           go_wp2_with (first | ((with_reducible refine gate_callee (f := 12) rfl ?_); refine goesL_ (some 35) rfl rfl Tryd.func12 (by kernel_rfl) rfl #[.string x7_2] rfl (by (try simp only [List.map_toArray, List.map_cons, List.map_nil]); first | done | rfl | (simp only [List.length_drop, List.length_take]; rfl)) ?_; (with_reducible refine (def_Parse.calls k2 x7_2 t466 t467 t470 t473 t474 _ A7.out).mono ?_); rintro e w13 ⟨v468, v471, rfl, ho0, ho1, hb⟩; refine ⟨_, rfl, ?_⟩; have n0_ := Aside0.mk (Kd.R_lower ho0 (below_size (by repeat (first | (with_reducible first | exact HB.out | apply below_alloc | apply pw_below_drewN | apply below_drew1) | exact HB.out)))); have n1_ := Aside0.mk (Kd.R_lower ho1 (below_size (by repeat (first | (with_reducible first | exact HB.out | apply below_alloc | apply pw_below_drewN | apply below_drew1) | exact HB.out)))); have n2_ := Aside0.mk (below_step (by repeat (first | (with_reducible first | exact HB.out | apply below_alloc | apply pw_below_drewN | apply below_drew1) | exact HB.out)) hb); clear HB; have HO469 := n0_; have HO472 := n1_; have HB := n2_; clear n0_ n1_ n2_; (try clear hb); (try clear hb2); (try clear hk); (try clear hi); (try clear ho0); (try clear ho1)) | ((with_reducible refine gate_dst (N := 10) rfl ?_); (try (refine gate_guard (by rfl) ?_; dsimp only)); refine box_event ?hg (N := 10) ?hd (cs := #[.string (⟨#[]⟩ : ByteArray), .slice none 0 0, .slice none 0 0]) (t := 25) ?hr ?_; (case hd => rfl); (case hg => rfl); (case hr => first | (go_simp; done) | (go_simp; rfl)); intro gb475 hg w14 hbox hb; have n0_ := Aside0.mk (Kd.R_below (by (with_reducible repeat (first | apply Kd.R_alloc | apply Kd.R_drewN | apply Kd.R_drew)); exact HO469.out) hb); have n1_ := Aside0.mk (Kd.R_below (by (with_reducible repeat (first | apply Kd.R_alloc | apply Kd.R_drewN | apply Kd.R_drew)); exact HO472.out) hb); have n2_ := Aside0.mk (below_step (by repeat (first | (with_reducible first | exact HB.out | apply below_alloc | apply pw_below_drewN | apply below_drew1) | exact HB.out)) hb); have n3_ := Aside0.mk (hbox); have n4_ := Aside0.mk ((by rw [hg]; exact (below_size (by repeat (first | (with_reducible first | exact HB.out | apply below_alloc | apply pw_below_drewN | apply below_drew1) | exact HB.out))) : w.heap.size ≤ gb475)); have n5_ := Aside0.mk ((by rw [hg]; exact (below_size (by repeat (first | (with_reducible first | exact HB.out | apply below_alloc | apply pw_below_drewN | apply below_drew1) | exact HB.out))) : w.heap.size ≤ gb475)); clear HO469; clear HO472; clear HB; have HO469 := n0_; have HO472 := n1_; have HB := n2_; have BK475 := n3_; have GW475 := n4_; have GE475 := n5_; clear n0_ n1_ n2_ n3_ n4_ n5_; clear hb hbox hg; have hcz15_0 : w14.cell? ⟨gb475, 0, none⟩ = some (.string (⟨#[]⟩ : ByteArray)) := (blk_cell BK475.out 0).trans rfl; have hcz15_1 : w14.cell? ⟨gb475, 1, none⟩ = some (.slice none 0 0) := (blk_cell BK475.out 1).trans rfl; have hcz15_2 : w14.cell? ⟨gb475, 2, none⟩ = some (.slice none 0 0) := (blk_cell BK475.out 2).trans rfl; have hfz15_0 := blk_frozen BK475.out 0; have hfz15_1 := blk_frozen BK475.out 1; have hfz15_2 := blk_frozen BK475.out 2; obtain ⟨Ao16, co16, eo16⟩ := Kd.R_slice HO469.out; subst eo16; obtain ⟨Ao17, co17, eo17⟩ := Kd.R_slice HO472.out; subst eo17) | (go_at_call 9; (with_reducible refine (remontoirlaw17_wakes.calls k2  t476 _ (Tab.below hTab (by repeat (first | exact HB.out | apply below_alloc | apply pw_below_drewN | apply below_drew1 | (refine below_set ?_ (Aside0.out ?_) <;> (first | assumption | skip)))))  A12.out).mono ?_); rintro e w18 ⟨rfl, hb⟩; have n0_ := Aside0.mk (Kd.R_below (by (with_reducible repeat (first | apply Kd.R_alloc | apply Kd.R_drewN | apply Kd.R_drew)); exact (Kd.R_mono (Kd.R_far (p := ⟨gb475, 2, none⟩) (Kd.R_far (p := ⟨gb475, 1, none⟩) (Kd.R_far (p := ⟨gb475, 0, none⟩) (Kd.R_types HO469.out BK475.out (by decide)) (fun _ hk => hk.2) (.string t466)) (fun _ hk => hk.2) (.slice Ao16 t467.length co16)) (fun _ hk => hk.2) (.slice Ao17 t470.length co17)) (fun _ h_ => h_.1))) hb); have n1_ := Aside0.mk (Kd.R_below (by (with_reducible repeat (first | apply Kd.R_alloc | apply Kd.R_drewN | apply Kd.R_drew)); exact (Kd.R_mono (Kd.R_far (p := ⟨gb475, 2, none⟩) (Kd.R_far (p := ⟨gb475, 1, none⟩) (Kd.R_far (p := ⟨gb475, 0, none⟩) (Kd.R_types HO472.out BK475.out (by decide)) (fun _ hk => hk.2) (.string t466)) (fun _ hk => hk.2) (.slice Ao16 t467.length co16)) (fun _ hk => hk.2) (.slice Ao17 t470.length co17)) (fun _ h_ => h_.1))) hb); have n2_ := Aside0.mk (blk_below (g := gb475) (o := .cells #[.string t466, .slice Ao16 t467.length co16, .slice Ao17 t470.length co17] 25 (0, 0)) (by (with_reducible repeat (first | refine blk_drewN ?_ _ | refine blk_drew ?_ | refine blk_alloc ?_ _)); refine blk_put (cs := #[.string t466, .slice Ao16 t467.length co16, .slice none 0 0]) ?_ 2 _ rfl; (with_reducible repeat (first | refine blk_drewN ?_ _ | refine blk_drew ?_ | refine blk_alloc ?_ _)); refine blk_put (cs := #[.string t466, .slice none 0 0, .slice none 0 0]) ?_ 1 _ rfl; (with_reducible repeat (first | refine blk_drewN ?_ _ | refine blk_drew ?_ | refine blk_alloc ?_ _)); refine blk_put (cs := #[.string (⟨#[]⟩ : ByteArray), .slice none 0 0, .slice none 0 0]) ?_ 0 _ rfl; (with_reducible repeat (first | refine blk_drewN ?_ _ | refine blk_drew ?_ | refine blk_alloc ?_ _)); exact BK475.out) hb); have n3_ := Aside0.mk (below_step (by repeat (first | (with_reducible first | exact HB.out | apply below_alloc | apply pw_below_drewN | apply below_drew1 | refine below_set ?_ GE475.out) | exact HB.out)) hb); clear HO469; clear HO472; clear BK475; clear HB; have HO469 := n0_; have HO472 := n1_; have BK475 := n2_; have HB := n3_; clear n0_ n1_ n2_ n3_; (try clear hb); (try clear hb2); (try clear hk); (try clear hi)))
           go_ret
           exact ⟨by first | rfl | (simp [errW_none, errW_some] <;> rfl) | (simp [*, errW_none, errW_some] <;> rfl), by repeat (first | (with_reducible first | exact HB.out | apply below_alloc | apply pw_below_drewN | apply below_drew1 | refine below_set ?_ GE475.out) | exact HB.out)⟩
          ·
           rw [if_neg c11] at H
           exact absurd (Option.some.inj H) (by rw [hr_]; decide)
         ·
          rw [if_neg c10] at H
          exact absurd (Option.some.inj H) (by rw [hr_]; decide)
        ·
         rw [if_neg c9] at H
         exact absurd (Option.some.inj H) (by rw [hr_]; decide)
       ·
        rw [if_neg c8] at H
        have c8b0 : decide (60 < (Int.tmod (wrap64 (a0)) 62)) = false := decide_eq_false c8
        clear c8
        by_cases c34 : (Int.tmod (wrap64 (a1)) 92) > 90
        ·
         rw [if_pos c34] at H
         have c34b0 : decide (90 < (Int.tmod (wrap64 (a1)) 92)) = true := decide_eq_true c34
         clear c34
         by_cases c35 : t474 = 15
         ·
          rw [if_pos c35] at H
          have c35b0 : (t474 == 15) = true := beq_iff_eq.mpr c35
          have c35b1 : (t474 != 15) = false := bne_eq_false_iff_eq.mpr c35
          clear c35
          by_cases c36 : t473 = (wrap64 ((wrap64 ((Int.tmod (wrap64 (a0)) 62) + 90)) + 2))
          ·
           rw [if_pos c36] at H
           have c36b0 : (t473 == (wrap64 ((wrap64 ((Int.tmod (wrap64 (a0)) 62) + 90)) + 2))) = true := beq_iff_eq.mpr c36
           have c36b1 : (t473 != (wrap64 ((wrap64 ((Int.tmod (wrap64 (a0)) 62) + 90)) + 2))) = false := bne_eq_false_iff_eq.mpr c36
           clear c36
           by_cases c37 : (t470.length : Int) = 0
           ·
            rw [if_pos c37] at H
            have c37b0 : ((t470.length : Int) == 0) = true := beq_iff_eq.mpr c37
            have c37b1 : ((t470.length : Int) != 0) = false := bne_eq_false_iff_eq.mpr c37
            clear c37
            replace H := Option.bind_eq_some_iff.mp H
            obtain ⟨t477, A380, H⟩ := H
            replace H : (some t477) = some r := H
            have A38 := Aside0.mk A380
            clear A380
            obtain rfl := Option.some.inj H
            go_wp2_with (first | ((with_reducible refine gate_callee (f := 12) rfl ?_); refine goesL_ (some 35) rfl rfl Tryd.func12 (by kernel_rfl) rfl #[.string x7_2] rfl (by (try simp only [List.map_toArray, List.map_cons, List.map_nil]); first | done | rfl | (simp only [List.length_drop, List.length_take]; rfl)) ?_; (with_reducible refine (def_Parse.calls k2 x7_2 t466 t467 t470 t473 t474 _ A7.out).mono ?_); rintro e w39 ⟨v468, v471, rfl, ho0, ho1, hb⟩; refine ⟨_, rfl, ?_⟩; have n0_ := Aside0.mk (Kd.R_lower ho0 (below_size (by repeat (first | (with_reducible first | exact HB.out | apply below_alloc | apply pw_below_drewN | apply below_drew1) | exact HB.out)))); have n1_ := Aside0.mk (Kd.R_lower ho1 (below_size (by repeat (first | (with_reducible first | exact HB.out | apply below_alloc | apply pw_below_drewN | apply below_drew1) | exact HB.out)))); have n2_ := Aside0.mk (below_step (by repeat (first | (with_reducible first | exact HB.out | apply below_alloc | apply pw_below_drewN | apply below_drew1) | exact HB.out)) hb); clear HB; have HO469 := n0_; have HO472 := n1_; have HB := n2_; clear n0_ n1_ n2_; (try clear hb); (try clear hb2); (try clear hk); (try clear hi); (try clear ho0); (try clear ho1)) | ((with_reducible refine gate_dst (N := 10) rfl ?_); (try (refine gate_guard (by rfl) ?_; dsimp only)); refine box_event ?hg (N := 10) ?hd (cs := #[.string (⟨#[]⟩ : ByteArray), .slice none 0 0, .slice none 0 0]) (t := 25) ?hr ?_; (case hd => rfl); (case hg => rfl); (case hr => first | (go_simp; done) | (go_simp; rfl)); intro gb475 hg w40 hbox hb; have n0_ := Aside0.mk (Kd.R_below (by (with_reducible repeat (first | apply Kd.R_alloc | apply Kd.R_drewN | apply Kd.R_drew)); exact HO469.out) hb); have n1_ := Aside0.mk (Kd.R_below (by (with_reducible repeat (first | apply Kd.R_alloc | apply Kd.R_drewN | apply Kd.R_drew)); exact HO472.out) hb); have n2_ := Aside0.mk (below_step (by repeat (first | (with_reducible first | exact HB.out | apply below_alloc | apply pw_below_drewN | apply below_drew1) | exact HB.out)) hb); have n3_ := Aside0.mk (hbox); have n4_ := Aside0.mk ((by rw [hg]; exact (below_size (by repeat (first | (with_reducible first | exact HB.out | apply below_alloc | apply pw_below_drewN | apply below_drew1) | exact HB.out))) : w.heap.size ≤ gb475)); have n5_ := Aside0.mk ((by rw [hg]; exact (below_size (by repeat (first | (with_reducible first | exact HB.out | apply below_alloc | apply pw_below_drewN | apply below_drew1) | exact HB.out))) : w.heap.size ≤ gb475)); clear HO469; clear HO472; clear HB; have HO469 := n0_; have HO472 := n1_; have HB := n2_; have BK475 := n3_; have GW475 := n4_; have GE475 := n5_; clear n0_ n1_ n2_ n3_ n4_ n5_; clear hb hbox hg; have hcz41_0 : w40.cell? ⟨gb475, 0, none⟩ = some (.string (⟨#[]⟩ : ByteArray)) := (blk_cell BK475.out 0).trans rfl; have hcz41_1 : w40.cell? ⟨gb475, 1, none⟩ = some (.slice none 0 0) := (blk_cell BK475.out 1).trans rfl; have hcz41_2 : w40.cell? ⟨gb475, 2, none⟩ = some (.slice none 0 0) := (blk_cell BK475.out 2).trans rfl; have hfz41_0 := blk_frozen BK475.out 0; have hfz41_1 := blk_frozen BK475.out 1; have hfz41_2 := blk_frozen BK475.out 2; obtain ⟨Ao42, co42, eo42⟩ := Kd.R_slice HO469.out; subst eo42; obtain ⟨Ao43, co43, eo43⟩ := Kd.R_slice HO472.out; subst eo43) | (go_at_call 9; (with_reducible refine (remontoirlaw17_wakes.calls k2  t477 _ (Tab.below hTab (by repeat (first | exact HB.out | apply below_alloc | apply pw_below_drewN | apply below_drew1 | (refine below_set ?_ (Aside0.out ?_) <;> (first | assumption | skip)))))  A38.out).mono ?_); rintro e w44 ⟨rfl, hb⟩; have n0_ := Aside0.mk (Kd.R_below (by (with_reducible repeat (first | apply Kd.R_alloc | apply Kd.R_drewN | apply Kd.R_drew)); exact (Kd.R_mono (Kd.R_far (p := ⟨gb475, 2, none⟩) (Kd.R_far (p := ⟨gb475, 1, none⟩) (Kd.R_far (p := ⟨gb475, 0, none⟩) (Kd.R_types HO469.out BK475.out (by decide)) (fun _ hk => hk.2) (.string t466)) (fun _ hk => hk.2) (.slice Ao42 t467.length co42)) (fun _ hk => hk.2) (.slice Ao43 t470.length co43)) (fun _ h_ => h_.1))) hb); have n1_ := Aside0.mk (Kd.R_below (by (with_reducible repeat (first | apply Kd.R_alloc | apply Kd.R_drewN | apply Kd.R_drew)); exact (Kd.R_mono (Kd.R_far (p := ⟨gb475, 2, none⟩) (Kd.R_far (p := ⟨gb475, 1, none⟩) (Kd.R_far (p := ⟨gb475, 0, none⟩) (Kd.R_types HO472.out BK475.out (by decide)) (fun _ hk => hk.2) (.string t466)) (fun _ hk => hk.2) (.slice Ao42 t467.length co42)) (fun _ hk => hk.2) (.slice Ao43 t470.length co43)) (fun _ h_ => h_.1))) hb); have n2_ := Aside0.mk (blk_below (g := gb475) (o := .cells #[.string t466, .slice Ao42 t467.length co42, .slice Ao43 t470.length co43] 25 (0, 0)) (by (with_reducible repeat (first | refine blk_drewN ?_ _ | refine blk_drew ?_ | refine blk_alloc ?_ _)); refine blk_put (cs := #[.string t466, .slice Ao42 t467.length co42, .slice none 0 0]) ?_ 2 _ rfl; (with_reducible repeat (first | refine blk_drewN ?_ _ | refine blk_drew ?_ | refine blk_alloc ?_ _)); refine blk_put (cs := #[.string t466, .slice none 0 0, .slice none 0 0]) ?_ 1 _ rfl; (with_reducible repeat (first | refine blk_drewN ?_ _ | refine blk_drew ?_ | refine blk_alloc ?_ _)); refine blk_put (cs := #[.string (⟨#[]⟩ : ByteArray), .slice none 0 0, .slice none 0 0]) ?_ 0 _ rfl; (with_reducible repeat (first | refine blk_drewN ?_ _ | refine blk_drew ?_ | refine blk_alloc ?_ _)); exact BK475.out) hb); have n3_ := Aside0.mk (below_step (by repeat (first | (with_reducible first | exact HB.out | apply below_alloc | apply pw_below_drewN | apply below_drew1 | refine below_set ?_ GE475.out) | exact HB.out)) hb); clear HO469; clear HO472; clear BK475; clear HB; have HO469 := n0_; have HO472 := n1_; have BK475 := n2_; have HB := n3_; clear n0_ n1_ n2_ n3_; (try clear hb); (try clear hb2); (try clear hk); (try clear hi)))
            go_ret
            exact ⟨by first | rfl | (simp [errW_none, errW_some] <;> rfl) | (simp [*, errW_none, errW_some] <;> rfl), by repeat (first | (with_reducible first | exact HB.out | apply below_alloc | apply pw_below_drewN | apply below_drew1 | refine below_set ?_ GE475.out) | exact HB.out)⟩
           ·
            rw [if_neg c37] at H
            exact absurd (Option.some.inj H) (by rw [hr_]; decide)
          ·
           rw [if_neg c36] at H
           exact absurd (Option.some.inj H) (by rw [hr_]; decide)
         ·
          rw [if_neg c35] at H
          exact absurd (Option.some.inj H) (by rw [hr_]; decide)
        ·
         rw [if_neg c34] at H
         have c34b0 : decide (90 < (Int.tmod (wrap64 (a1)) 92)) = false := decide_eq_false c34
         clear c34
         by_cases c60 : t474 = 0
         ·
          rw [if_pos c60] at H
          have c60b0 : (t474 == 0) = true := beq_iff_eq.mpr c60
          have c60b1 : (t474 != 0) = false := bne_eq_false_iff_eq.mpr c60
          clear c60
          by_cases c61 : t473 = 0
          ·
           rw [if_pos c61] at H
           have c61b0 : (t473 == 0) = true := beq_iff_eq.mpr c61
           have c61b1 : (t473 != 0) = false := bne_eq_false_iff_eq.mpr c61
           clear c61
           by_cases c62 : (t467.length : Int) = (Int.tmod (wrap64 (a0)) 62)
           ·
            rw [if_pos c62] at H
            have c62b0 : ((t467.length : Int) == (Int.tmod (wrap64 (a0)) 62)) = true := beq_iff_eq.mpr c62
            have c62b1 : ((t467.length : Int) != (Int.tmod (wrap64 (a0)) 62)) = false := bne_eq_false_iff_eq.mpr c62
            clear c62
            by_cases c63 : (t470.length : Int) = (Int.tmod (wrap64 (a1)) 92)
            ·
             rw [if_pos c63] at H
             have c63b0 : ((t470.length : Int) == (Int.tmod (wrap64 (a1)) 92)) = true := beq_iff_eq.mpr c63
             have c63b1 : ((t470.length : Int) != (Int.tmod (wrap64 (a1)) 92)) = false := bne_eq_false_iff_eq.mpr c63
             clear c63
             replace H := Option.bind_eq_some_iff.mp H
             obtain ⟨t478, A640, H⟩ := H
             replace H : (some t478) = some r := H
             have A64 := Aside0.mk A640
             clear A640
             obtain rfl := Option.some.inj H
             go_wp2_with (first | ((with_reducible refine gate_callee (f := 12) rfl ?_); refine goesL_ (some 35) rfl rfl Tryd.func12 (by kernel_rfl) rfl #[.string x7_2] rfl (by (try simp only [List.map_toArray, List.map_cons, List.map_nil]); first | done | rfl | (simp only [List.length_drop, List.length_take]; rfl)) ?_; (with_reducible refine (def_Parse.calls k2 x7_2 t466 t467 t470 t473 t474 _ A7.out).mono ?_); rintro e w65 ⟨v468, v471, rfl, ho0, ho1, hb⟩; refine ⟨_, rfl, ?_⟩; have n0_ := Aside0.mk (Kd.R_lower ho0 (below_size (by repeat (first | (with_reducible first | exact HB.out | apply below_alloc | apply pw_below_drewN | apply below_drew1) | exact HB.out)))); have n1_ := Aside0.mk (Kd.R_lower ho1 (below_size (by repeat (first | (with_reducible first | exact HB.out | apply below_alloc | apply pw_below_drewN | apply below_drew1) | exact HB.out)))); have n2_ := Aside0.mk (below_step (by repeat (first | (with_reducible first | exact HB.out | apply below_alloc | apply pw_below_drewN | apply below_drew1) | exact HB.out)) hb); clear HB; have HO469 := n0_; have HO472 := n1_; have HB := n2_; clear n0_ n1_ n2_; (try clear hb); (try clear hb2); (try clear hk); (try clear hi); (try clear ho0); (try clear ho1)) | ((with_reducible refine gate_dst (N := 10) rfl ?_); (try (refine gate_guard (by rfl) ?_; dsimp only)); refine box_event ?hg (N := 10) ?hd (cs := #[.string (⟨#[]⟩ : ByteArray), .slice none 0 0, .slice none 0 0]) (t := 25) ?hr ?_; (case hd => rfl); (case hg => rfl); (case hr => first | (go_simp; done) | (go_simp; rfl)); intro gb475 hg w66 hbox hb; have n0_ := Aside0.mk (Kd.R_below (by (with_reducible repeat (first | apply Kd.R_alloc | apply Kd.R_drewN | apply Kd.R_drew)); exact HO469.out) hb); have n1_ := Aside0.mk (Kd.R_below (by (with_reducible repeat (first | apply Kd.R_alloc | apply Kd.R_drewN | apply Kd.R_drew)); exact HO472.out) hb); have n2_ := Aside0.mk (below_step (by repeat (first | (with_reducible first | exact HB.out | apply below_alloc | apply pw_below_drewN | apply below_drew1) | exact HB.out)) hb); have n3_ := Aside0.mk (hbox); have n4_ := Aside0.mk ((by rw [hg]; exact (below_size (by repeat (first | (with_reducible first | exact HB.out | apply below_alloc | apply pw_below_drewN | apply below_drew1) | exact HB.out))) : w.heap.size ≤ gb475)); have n5_ := Aside0.mk ((by rw [hg]; exact (below_size (by repeat (first | (with_reducible first | exact HB.out | apply below_alloc | apply pw_below_drewN | apply below_drew1) | exact HB.out))) : w.heap.size ≤ gb475)); clear HO469; clear HO472; clear HB; have HO469 := n0_; have HO472 := n1_; have HB := n2_; have BK475 := n3_; have GW475 := n4_; have GE475 := n5_; clear n0_ n1_ n2_ n3_ n4_ n5_; clear hb hbox hg; have hcz67_0 : w66.cell? ⟨gb475, 0, none⟩ = some (.string (⟨#[]⟩ : ByteArray)) := (blk_cell BK475.out 0).trans rfl; have hcz67_1 : w66.cell? ⟨gb475, 1, none⟩ = some (.slice none 0 0) := (blk_cell BK475.out 1).trans rfl; have hcz67_2 : w66.cell? ⟨gb475, 2, none⟩ = some (.slice none 0 0) := (blk_cell BK475.out 2).trans rfl; have hfz67_0 := blk_frozen BK475.out 0; have hfz67_1 := blk_frozen BK475.out 1; have hfz67_2 := blk_frozen BK475.out 2; obtain ⟨Ao68, co68, eo68⟩ := Kd.R_slice HO469.out; subst eo68; obtain ⟨Ao69, co69, eo69⟩ := Kd.R_slice HO472.out; subst eo69) | (go_at_call 9; (with_reducible refine (remontoirlaw17_wakes.calls k2  t478 _ (Tab.below hTab (by repeat (first | exact HB.out | apply below_alloc | apply pw_below_drewN | apply below_drew1 | (refine below_set ?_ (Aside0.out ?_) <;> (first | assumption | skip)))))  A64.out).mono ?_); rintro e w70 ⟨rfl, hb⟩; have n0_ := Aside0.mk (Kd.R_below (by (with_reducible repeat (first | apply Kd.R_alloc | apply Kd.R_drewN | apply Kd.R_drew)); exact (Kd.R_mono (Kd.R_far (p := ⟨gb475, 2, none⟩) (Kd.R_far (p := ⟨gb475, 1, none⟩) (Kd.R_far (p := ⟨gb475, 0, none⟩) (Kd.R_types HO469.out BK475.out (by decide)) (fun _ hk => hk.2) (.string t466)) (fun _ hk => hk.2) (.slice Ao68 t467.length co68)) (fun _ hk => hk.2) (.slice Ao69 t470.length co69)) (fun _ h_ => h_.1))) hb); have n1_ := Aside0.mk (Kd.R_below (by (with_reducible repeat (first | apply Kd.R_alloc | apply Kd.R_drewN | apply Kd.R_drew)); exact (Kd.R_mono (Kd.R_far (p := ⟨gb475, 2, none⟩) (Kd.R_far (p := ⟨gb475, 1, none⟩) (Kd.R_far (p := ⟨gb475, 0, none⟩) (Kd.R_types HO472.out BK475.out (by decide)) (fun _ hk => hk.2) (.string t466)) (fun _ hk => hk.2) (.slice Ao68 t467.length co68)) (fun _ hk => hk.2) (.slice Ao69 t470.length co69)) (fun _ h_ => h_.1))) hb); have n2_ := Aside0.mk (blk_below (g := gb475) (o := .cells #[.string t466, .slice Ao68 t467.length co68, .slice Ao69 t470.length co69] 25 (0, 0)) (by (with_reducible repeat (first | refine blk_drewN ?_ _ | refine blk_drew ?_ | refine blk_alloc ?_ _)); refine blk_put (cs := #[.string t466, .slice Ao68 t467.length co68, .slice none 0 0]) ?_ 2 _ rfl; (with_reducible repeat (first | refine blk_drewN ?_ _ | refine blk_drew ?_ | refine blk_alloc ?_ _)); refine blk_put (cs := #[.string t466, .slice none 0 0, .slice none 0 0]) ?_ 1 _ rfl; (with_reducible repeat (first | refine blk_drewN ?_ _ | refine blk_drew ?_ | refine blk_alloc ?_ _)); refine blk_put (cs := #[.string (⟨#[]⟩ : ByteArray), .slice none 0 0, .slice none 0 0]) ?_ 0 _ rfl; (with_reducible repeat (first | refine blk_drewN ?_ _ | refine blk_drew ?_ | refine blk_alloc ?_ _)); exact BK475.out) hb); have n3_ := Aside0.mk (below_step (by repeat (first | (with_reducible first | exact HB.out | apply below_alloc | apply pw_below_drewN | apply below_drew1 | refine below_set ?_ GE475.out) | exact HB.out)) hb); clear HO469; clear HO472; clear BK475; clear HB; have HO469 := n0_; have HO472 := n1_; have BK475 := n2_; have HB := n3_; clear n0_ n1_ n2_ n3_; (try clear hb); (try clear hb2); (try clear hk); (try clear hi)))
             go_ret
             exact ⟨by first | rfl | (simp [errW_none, errW_some] <;> rfl) | (simp [*, errW_none, errW_some] <;> rfl), by repeat (first | (with_reducible first | exact HB.out | apply below_alloc | apply pw_below_drewN | apply below_drew1 | refine below_set ?_ GE475.out) | exact HB.out)⟩
            ·
             rw [if_neg c63] at H
             exact absurd (Option.some.inj H) (by rw [hr_]; decide)
           ·
            rw [if_neg c62] at H
            exact absurd (Option.some.inj H) (by rw [hr_]; decide)
          ·
           rw [if_neg c61] at H
           exact absurd (Option.some.inj H) (by rw [hr_]; decide)
         ·
          rw [if_neg c60] at H
          exact absurd (Option.some.inj H) (by rw [hr_]; decide)
end Go.Proofs.YtpalncojmknlbaaDoor.Y
