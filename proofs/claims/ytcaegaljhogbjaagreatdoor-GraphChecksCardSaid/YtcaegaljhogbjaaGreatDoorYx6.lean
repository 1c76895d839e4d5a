/- What Go functions compute, as plain Lean functions, and that the machine comes to just that: written by wip/tools/printx.py (my run of the printer, with contracts of mine beside it). -/
import Derived.Test.YtcaegaljhogbjaaGreatDoorOn
import Derived.Test.YtcaegaljhogbjaaGreatDoorYx0
set_option maxHeartbeats 8000000
set_option maxRecDepth 100000
namespace Go.Proofs.YtcaegaljhogbjaaGreatDoor.Y
open Go.Proofs.YtcaegaljhogbjaaGreatDoor.Ext Go.Proofs.YtcaegaljhogbjaaGreatDoor.B Go.Proofs.YtcaegaljhogbjaaGreatDoor.Q Go.RowKit Go.Proofs.YtcaegaljhogbjaaGreatDoorW.PrintWords Go.Proofs.YtcaegaljhogbjaaGreatDoorW.PrintLast Go.Proofs.YtcaegaljhogbjaaGreatDoorW.PrintMore
attribute [local go_sem] max2_int min2_int max_two min_two max_three min_three max_four min_four   -- for this text's walks alone
set_option linter.unusedVariables false
set_option linter.unusedSimpArgs false

/-! ### zbt: function 21 -/
def zbt.f (a0 : Int) (a1 : Int) (a2 : Int) : Option (Bool) := if a0 ≥ a1 then (some (decide (a0 ≤ a2))) else (some false)
theorem zbt.calls (a0 : Int) (a1 : Int) (a2 : Int) (r : Bool) (w : World) (h : zbt.f a0 a1 a2 = some r) :
  Calls Tryz.prog 21 #[.int .i64 a0, .int .i64 a1, .int .i64 a2] w fun e w' => e = .returned (.bool r) ∧ Drawn0 w w' := by
 have H : (if a0 ≥ a1 then (some (decide (a0 ≤ a2))) else (some false)) = some r := h
 clear h
 by_cases c4 : a0 ≥ a1
 ·
  rw [if_pos c4] at H
  have c4b0 : decide (a1 ≤ a0) = true := decide_eq_true c4
  clear c4
  obtain rfl := Option.some.inj H
  go_enter Tryz.func21, Tryz.ntmps21
  go_wp2
  go_ret
  exact ⟨by first | rfl | (simp; done) | (simp [*]; done) | (simp; exact isEmpty_ne _), by repeat (first | exact Drawn0.refl _ | apply Drawn0.step)⟩
 ·
  rw [if_neg c4] at H
  have c4b0 : decide (a1 ≤ a0) = false := decide_eq_false c4
  clear c4
  obtain rfl := Option.some.inj H
  go_enter Tryz.func21, Tryz.ntmps21
  go_wp2
  go_ret
  exact ⟨by first | rfl | (simp; done) | (simp [*]; done) | (simp; exact isEmpty_ne _), by repeat (first | exact Drawn0.refl _ | apply Drawn0.step)⟩

/-! ### zbu: function 41 -/
def zbu.f (a0_0 : ByteArray) (l0_1 : List (S38)) (l0_2 : List (S40)) (a1 : Int) : Option (Int × Int × Int × Int × ByteArray × Bool) := (zbt.f a1 1 (l0_1.length : Int)).bind fun t180 => (if t180 = true then (if 0 ≤ (wrap64 (a1 - 1)) then (if (wrap64 (a1 - 1)) < (l0_1.length : Int) then (some ((zba l0_1 (wrap64 (a1 - 1))).f0, (zba l0_1 (wrap64 (a1 - 1))).f1, (zba l0_1 (wrap64 (a1 - 1))).f2, (zba l0_1 (wrap64 (a1 - 1))).f3, (zba l0_1 (wrap64 (a1 - 1))).f4, true)) else (none)) else (none)) else (some (0, 0, 0, 0, (⟨#[]⟩ : ByteArray), false)))
theorem put5 {W : World} {g : Nat} {ty : TypeId} {z0 z1 z2 z3 z4 : Value} (h : W.heap[g]? = some (.cells #[z0, z1, z2, z3, z4] ty (0, 0))) (v0 v1 v2 v3 v4 : Value) :
  (((((W.setCell ⟨g, 0, none⟩ v0).setCell ⟨g, 1, none⟩ v1).setCell ⟨g, 2, none⟩ v2).setCell ⟨g, 3, none⟩ v3).setCell ⟨g, 4, none⟩ v4).heap[g]? = some (.cells #[v0, v1, v2, v3, v4] ty (0, 0)) :=
 blk_put (blk_put (blk_put (blk_put (blk_put h 0 v0 rfl) 1 v1 rfl) 2 v2 rfl) 3 v3 rfl) 4 v4 rfl
theorem low5 {w W : World} {g : Nat} (h : Below w.heap.size w W) (hg : w.heap.size ≤ g) (v0 v1 v2 v3 v4 : Value) :
  Below w.heap.size w (((((W.setCell ⟨g, 0, none⟩ v0).setCell ⟨g, 1, none⟩ v1).setCell ⟨g, 2, none⟩ v2).setCell ⟨g, 3, none⟩ v3).setCell ⟨g, 4, none⟩ v4) :=
 below_set (below_set (below_set (below_set (below_set h hg) hg) hg) hg) hg
theorem new1 (w : World) (o1 o2 : Obj) (n : Nat) : (((w.alloc o1).alloc o2).drewN n).heap[w.heap.size + 1]? = some o2 := by
 have e : (w.alloc o1).heap.size = w.heap.size + 1 := by simp
 rw [← e]; exact blk_new _ _
theorem low1 (w : World) (o1 o2 : Obj) (n : Nat) : Below w.heap.size w (((w.alloc o1).alloc o2).drewN n) := pw_below_drewN (below_alloc (below_alloc (Below.refl _ _) _) _) _
theorem zbu.calls (a0_0 : ByteArray) (A0_1 : Option Addr) (c0_1 : Nat) (l0_1 : List (S38)) (A0_2 : Option Addr) (c0_2 : Nat) (l0_2 : List (S40)) (a1 : Int) (r1 : Int) (r2 : Int) (r3 : Int) (r4 : Int) (r5 : ByteArray) (r6 : Bool) (w : World) (hr0_1 : Kd.C k38 w A0_1 l0_1.length l0_1) (hc0_1 : l0_1.length ≤ c0_1) (hr0_2 : Kd.C k40 w A0_2 l0_2.length l0_2) (hc0_2 : l0_2.length ≤ c0_2) (h : zbu.f a0_0 l0_1 l0_2 a1 = some (r1, r2, r3, r4, r5, r6)) :
  Calls Tryz.prog 41 #[.agg #[.string a0_0, .slice A0_1 l0_1.length c0_1, .slice A0_2 l0_2.length c0_2], .int .i64 a1] w fun e w' => e = .returned (.tuple #[.agg #[.int .i64 r1, .int .i64 r2, .int .i64 r3, .int .i64 r4, .string r5], .bool r6]) ∧ Below w.heap.size w w' := by
 have HR0_1 := mk0 hr0_1
 clear hr0_1 hc0_1 hr0_2 hc0_2
 obtain ⟨t, ht, h⟩ := Option.bind_eq_some_iff.mp h
 have A3 := mk0 ht
 clear ht
 cases t with
 | true =>
  rw [if_pos rfl] at h
  split at h
  case isFalse => cases h
  rename_i p
  split at h
  case isFalse => cases h
  rename_i q
  cases h
  have hjw : (IntKind.i64.wrap (a1 - 1)) = wrap64 (a1 - 1) := i64_w _
  generalize wrap64 (a1 - 1) = j at *
  obtain ⟨ad, e, hx0, hx1, hx2, hx3, hx4⟩ := zbc HR0_1.out j p q
  subst e
  have hb := World.block_lt_of_cell? w _ hx0
  have hne : (ad.add (j.toNat * 5)).block ≠ w.heap.size := Nat.ne_of_lt hb
  have hne1 : (ad.add (j.toNat * 5)).block ≠ w.heap.size + 1 := Nat.ne_of_lt (Nat.lt_succ_of_lt hb)
  have p' := eq_true p
  have q' := eq_true q
  generalize zba l0_1 j = x at *
  obtain ⟨x0, x1, x2, x3, x4⟩ := x
  dsimp only at hx0 hx1 hx2 hx3 hx4
  go_enter Tryz.func41, Tryz.ntmps41
  go_wp2_with (go_at_call 21; (with_reducible refine (zbt.calls a1 1 (l0_1.length : Int) true _ A3.out).mono ?_); rintro e w' ⟨rfl, ⟨nd, rfl⟩⟩)
  refine bodyPost_ret (results_ct rfl _ _ (w.heap.size + 1) 38 _ (0, 0) _ rfl (put5 (new1 w _ _ _) _ _ _ _ _) Tryz.underlying38 rfl (by kernel_rfl)) rfl ?_
  exact ⟨rfl, low5 (low1 w _ _ _) (Nat.le_succ _) _ _ _ _ _⟩
 | false =>
  rw [if_neg (by decide)] at h
  cases h
  go_enter Tryz.func41, Tryz.ntmps41
  go_wp2_with (go_at_call 21; (with_reducible refine (zbt.calls a1 1 (l0_1.length : Int) false _ A3.out).mono ?_); rintro e w' ⟨rfl, ⟨nd, rfl⟩⟩)
  refine bodyPost_ret (results_ct rfl _ _ (w.heap.size + 1) 38 _ (0, 0) _ rfl (put5 (new1 w _ _ _) _ _ _ _ _) Tryz.underlying38 rfl (by kernel_rfl)) rfl ?_
  exact ⟨rfl, low5 (low1 w _ _ _) (Nat.le_succ _) _ _ _ _ _⟩

/-! ### zbl: function 44 -/
def zbl.j0 : Nat → Int → Int → Int → Int → ByteArray → Option (Int × Int × Bool)
 | 0, _, _, _, _, _ => none
 | k + 1, x198000, x198001, x198002, x198003, x198004 => (zbx.f x198004).bind fun bt199 => (if bt199.2 = 0 then (some (1, bt199.1, decide (bt199.1 > 0))) else ((zav.f k x198004).bind fun bt201 => (if x198000 = 9 then (if bt201.2.2 = 0 then (if bt201.1 > 9 then (some (0, 0, false)) else (some (bt201.1, bt201.2.1, true))) else (some (0, 0, false))) else (some (0, 0, false)))))
def zbl.f (k : Nat) (a0_0 : Int) (a0_1 : Int) (a0_2 : Int) (a0_3 : Int) (a0_4 : ByteArray) : Option (Int × Int × Bool) := if a0_0 = 4 then (zbl.j0 k a0_0 a0_1 a0_2 a0_3 a0_4) else (if a0_0 = 8 then (zbl.j0 k a0_0 a0_1 a0_2 a0_3 a0_4) else (if a0_0 = 9 then (zbl.j0 k a0_0 a0_1 a0_2 a0_3 a0_4) else (some (0, 0, false))))
theorem zbl.calls (k : Nat) (a0_0 : Int) (a0_1 : Int) (a0_2 : Int) (a0_3 : Int) (a0_4 : ByteArray) (r1 : Int) (r2 : Int) (r3 : Bool) (w : World) (h : zbl.f k a0_0 a0_1 a0_2 a0_3 a0_4 = some (r1, r2, r3)) :
  Calls Tryz.prog 44 #[.agg #[.int .i64 a0_0, .int .i64 a0_1, .int .i64 a0_2, .int .i64 a0_3, .string a0_4]] w fun e w' => e = .returned (.tuple #[.agg #[.int .i64 r1, .int .u64 r2], .bool r3]) ∧ Below w.heap.size w w' := by
 have hu38 := Tryz.underlying38
 have hu46 := Tryz.underlying46
 have HB := mk0 (Below.refl w.heap.size w)
 have H : (if a0_0 = 4 then (zbl.j0 k a0_0 a0_1 a0_2 a0_3 a0_4) else (if a0_0 = 8 then (zbl.j0 k a0_0 a0_1 a0_2 a0_3 a0_4) else (if a0_0 = 9 then (zbl.j0 k a0_0 a0_1 a0_2 a0_3 a0_4) else (some (0, 0, false))))) = some (r1, r2, r3) := h
 clear h
 have HC2 := mk0 H
 clear H
 go_enter Tryz.func44, Tryz.ntmps44
 go_upto_block 0 with (first | ((with_reducible refine gate_dst (N := 1) rfl ?_); refine box_event ?hg (N := 1) ?hd (cs := #[.int .i64 a0_0, .int .i64 a0_1, .int .i64 a0_2, .int .i64 a0_3, .string a0_4]) (t := 38) ?hr ?_; (case hd => rfl); (case hg => rfl); (case hr => first | (go_simp; done) | (go_simp; rfl)); intro gb197 hg w3 hbox hb; have n0_ := mk0 (bst HB.out hb); have n1_ := mk0 (hbox); have n2_ := mk0 (gle hg HB.out); have n3_ := mk0 (gle hg HB.out); clear HB; have HB := n0_; have BK197 := n1_; have GW197 := n2_; have GE197 := n3_; clear n0_ n1_ n2_ n3_; clear hb hbox hg) | ((with_reducible refine gate_dst (N := 2) rfl ?_); refine box_event ?hg (N := 2) ?hd (cs := #[.int .i64 0, .int .u64 0]) (t := 46) ?hr ?_; (case hd => rfl); (case hg => rfl); (case hr => first | (go_simp; done) | (go_simp; rfl)); intro gb198 hg w4 hbox hb; have n0_ := mk0 (blk_below (obk BK197.out) hb); have n1_ := mk0 (bst HB.out hb); have n2_ := mk0 (hbox); have n3_ := mk0 (gle hg HB.out); have n4_ := mk0 (gle hg HB.out); have n5_ := mk0 (nlt hg BK197.out); have n6_ := mk0 (ngt hg BK197.out); clear BK197; clear HB; have BK197 := n0_; have HB := n1_; have BK198 := n2_; have GW198 := n3_; have GE198 := n4_; have NB197_198 := n5_; have NB198_197 := n6_; clear n0_ n1_ n2_ n3_ n4_ n5_ n6_; clear hb hbox hg; have hnb5 := NB197_198.out; have hnc5 := NB198_197.out; obtain ⟨hcz6_0, hcz6_1, hcz6_2, hcz6_3, hcz6_4, hfz6_0, hfz6_1, hfz6_2, hfz6_3, hfz6_4⟩ := blk5 BK197.out))
 (try simp only [Act.put, List.setIfInBounds_toArray, List.set_cons_zero, List.set_cons_succ])
 go_cut [] (fun wc => ∃ (kq : Nat) (x199000_1 : Int) (x199001_1 : Int), Aside0 (zbl.j0 kq a0_0 a0_1 a0_2 a0_3 a0_4 = some (r1, r2, r3)) ∧ Aside0 (kq ≤ k) ∧ Aside0 (wc.heap[gb197]? = some (.cells #[.int .i64 a0_0, .int .i64 a0_1, .int .i64 a0_2, .int .i64 a0_3, .string a0_4] 38 (0, 0))) ∧ Aside0 (wc.heap[gb198]? = some (.cells #[.int .i64 x199000_1, .int .u64 x199001_1] 46 (0, 0))) ∧ Aside0 (Below w.heap.size w wc))
 case first =>
  have H := HC2.out
  clear HC2
  by_cases c7 : a0_0 = 4
  ·
   rw [if_pos c7] at H
   have c7b0 : (a0_0 == 4) = true := beq_iff_eq.mpr c7
   have c7b1 : (a0_0 != 4) = false := bne_eq_false_iff_eq.mpr c7
   clear c7
   (first | rw [c7b0] | (simp only [i64_w, i32_w]; rw [c7b0]) | skip)
   have H' := mk0 H
   clear H
   go_wp2
   go_meet
   case rel => exact ⟨_, (0), (0), H', ⟨by first | omega | exact Nat.le_refl _⟩, ⟨by exact obk BK197.out⟩, ⟨by exact obk BK198.out⟩, ⟨by exact bok HB.out⟩⟩
  ·
   rw [if_neg c7] at H
   have c7b0 : (a0_0 == 4) = false := beq_eq_false_iff_ne.mpr c7
   have c7b1 : (a0_0 != 4) = true := bne_iff_ne.mpr c7
   (first | rw [c7b0] | (simp only [i64_w, i32_w]; rw [c7b0]) | skip)
   by_cases c8 : a0_0 = 8
   ·
    rw [if_pos c8] at H
    have c8b0 : (a0_0 == 8) = true := beq_iff_eq.mpr c8
    have c8b1 : (a0_0 != 8) = false := bne_eq_false_iff_eq.mpr c8
    clear c8
    have H' := mk0 H
    clear H
    go_wp2
    go_meet
    case rel => exact ⟨_, (0), (0), H', ⟨by first | omega | exact Nat.le_refl _⟩, ⟨by exact obk BK197.out⟩, ⟨by exact obk BK198.out⟩, ⟨by exact bok HB.out⟩⟩
   ·
    rw [if_neg c8] at H
    have c8b0 : (a0_0 == 8) = false := beq_eq_false_iff_ne.mpr c8
    have c8b1 : (a0_0 != 8) = true := bne_iff_ne.mpr c8
    by_cases c9 : a0_0 = 9
    ·
     rw [if_pos c9] at H
     have c9b0 : (a0_0 == 9) = true := beq_iff_eq.mpr c9
     have c9b1 : (a0_0 != 9) = false := bne_eq_false_iff_eq.mpr c9
     clear c9
     have H' := mk0 H
     clear H
     go_wp2
     go_meet
     case rel => exact ⟨_, (0), (0), H', ⟨by first | omega | exact Nat.le_refl _⟩, ⟨by exact obk BK197.out⟩, ⟨by exact obk BK198.out⟩, ⟨by exact bok HB.out⟩⟩
    ·
     rw [if_neg c9] at H
     have c9b0 : (a0_0 == 9) = false := beq_eq_false_iff_ne.mpr c9
     have c9b1 : (a0_0 != 9) = true := bne_iff_ne.mpr c9
     simp only [Option.some.injEq, Prod.mk.injEq] at H
     obtain ⟨rfl, rfl, rfl⟩ := H
     have hnb10 := NB198_197.out
     have hnc10 := NB197_198.out
     obtain ⟨hcz11_0, hcz11_1, hfz11_0, hfz11_1⟩ := blk2 BK198.out
     go_wp2
     refine bodyPost_ret (results_ct rfl _ _ gb198 46 #[.int .i64 0, .int .u64 0] (0, 0) _ rfl (by exact obk (blk_put (obk (blk_put (obk BK198.out) 0 _ rfl)) 1 _ rfl)) Tryz.underlying46 rfl (by kernel_rfl)) rfl ?_
     exact ⟨by first | rfl | (simp [*, zbe, zbf] <;> rfl) | (simp [zbe, zbf]; exact isEmpty_ne _), by exact bok HB.out⟩
 case rest =>
  clear HC2
  obtain ⟨kq, x199000_1, x199001_1, HA, HJ1, BK197, BK198, HB⟩ := hcut
  cases kq with
  | zero => exact absurd HA.out (by simp [zbl.j0])
  | succ kj1 =>
   have H := HA.out
   clear HA
   simp only [zbl.j0] at H
   replace H := Option.bind_eq_some_iff.mp H
   obtain ⟨⟨t199, t200⟩, A120, H⟩ := H
   replace H : (if t200 = 0 then (some (1, t199, decide (t199 > 0))) else ((zav.f kj1 a0_4).bind fun bt201 => (if a0_0 = 9 then (if bt201.2.2 = 0 then (if bt201.1 > 9 then (some (0, 0, false)) else (some (bt201.1, bt201.2.1, true))) else (some (0, 0, false))) else (some (0, 0, false))))) = some (r1, r2, r3) := H
   have A12 := mk0 A120
   clear A120
   by_cases c13 : t200 = 0
   ·
    rw [if_pos c13] at H
    have c13b0 : (t200 == 0) = true := beq_iff_eq.mpr c13
    have c13b1 : (t200 != 0) = false := bne_eq_false_iff_eq.mpr c13
    clear c13
    simp only [Option.some.injEq, Prod.mk.injEq] at H
    obtain ⟨rfl, rfl, rfl⟩ := H
    have hnb14 := NB197_198.out
    have hnc14 := NB198_197.out
    obtain ⟨hcz15_0, hcz15_1, hcz15_2, hcz15_3, hcz15_4, hfz15_0, hfz15_1, hfz15_2, hfz15_3, hfz15_4⟩ := blk5 BK197.out
    go_wp2_with (first | ((with_reducible refine gate_callee (f := 57) rfl ?_); refine goesL_ (some 18) rfl rfl Tryz.func57 (by kernel_rfl) rfl #[.string a0_4] rfl (by (try simp only [List.map_toArray, List.map_cons, List.map_nil]); first | done | rfl | (simp only [List.length_drop, List.length_take]; rfl)) ?_; (with_reducible refine (zbx.calls a0_4 t199 t200 _ A12.out).mono ?_); rintro e w16 ⟨rfl, hb⟩; refine ⟨_, rfl, ?_⟩; have n0_ := mk0 (blk_below (obk BK197.out) hb); have n1_ := mk0 (blk_below (obk BK198.out) hb); have n2_ := mk0 (bst HB.out hb); clear BK197; clear BK198; clear HB; have BK197 := n0_; have BK198 := n1_; have HB := n2_; clear n0_ n1_ n2_; (try clear hb); obtain ⟨hcz17_0, hcz17_1, hfz17_0, hfz17_1⟩ := blk2 BK198.out))
    refine bodyPost_ret (results_ct rfl _ _ gb198 46 #[.int .i64 1, .int .u64 t199] (0, 0) _ rfl (by exact obk (blk_put (obk (blk_put (obk BK198.out) 0 _ rfl)) 1 _ rfl)) Tryz.underlying46 rfl (by kernel_rfl)) rfl ?_
    exact ⟨by first | rfl | (simp [*, zbe, zbf] <;> rfl) | (simp [zbe, zbf]; exact isEmpty_ne _), by exact bok HB.out⟩
   ·
    rw [if_neg c13] at H
    have c13b0 : (t200 == 0) = false := beq_eq_false_iff_ne.mpr c13
    have c13b1 : (t200 != 0) = true := bne_iff_ne.mpr c13
    replace H := Option.bind_eq_some_iff.mp H
    obtain ⟨⟨t201, t202, t203⟩, A180, H⟩ := H
    replace H : (if a0_0 = 9 then (if t203 = 0 then (if t201 > 9 then (some (0, 0, false)) else (some (t201, t202, true))) else (some (0, 0, false))) else (some (0, 0, false))) = some (r1, r2, r3) := H
    have A18 := mk0 A180
    clear A180
    by_cases c19 : a0_0 = 9
    ·
     rw [if_pos c19] at H
     have c19b0 : (a0_0 == 9) = true := beq_iff_eq.mpr c19
     have c19b1 : (a0_0 != 9) = false := bne_eq_false_iff_eq.mpr c19
     clear c19
     by_cases c20 : t203 = 0
     ·
      rw [if_pos c20] at H
      have c20b0 : (t203 == 0) = true := beq_iff_eq.mpr c20
      have c20b1 : (t203 != 0) = false := bne_eq_false_iff_eq.mpr c20
      clear c20
      by_cases c21 : t201 > 9
      ·
       rw [if_pos c21] at H
       have c21b0 : decide (9 < t201) = true := decide_eq_true c21
       clear c21
       simp only [Option.some.injEq, Prod.mk.injEq] at H
       obtain ⟨rfl, rfl, rfl⟩ := H
       have hnb22 := NB197_198.out
       have hnc22 := NB198_197.out
       obtain ⟨hcz23_0, hcz23_1, hcz23_2, hcz23_3, hcz23_4, hfz23_0, hfz23_1, hfz23_2, hfz23_3, hfz23_4⟩ := blk5 BK197.out
       go_wp2_with (first | ((with_reducible refine gate_callee (f := 57) rfl ?_); refine goesL_ (some 18) rfl rfl Tryz.func57 (by kernel_rfl) rfl #[.string a0_4] rfl (by (try simp only [List.map_toArray, List.map_cons, List.map_nil]); first | done | rfl | (simp only [List.length_drop, List.length_take]; rfl)) ?_; (with_reducible refine (zbx.calls a0_4 t199 t200 _ A12.out).mono ?_); rintro e w24 ⟨rfl, hb⟩; refine ⟨_, rfl, ?_⟩; have n0_ := mk0 (blk_below (obk BK197.out) hb); have n1_ := mk0 (blk_below (obk BK198.out) hb); have n2_ := mk0 (bst HB.out hb); clear BK197; clear BK198; clear HB; have BK197 := n0_; have BK198 := n1_; have HB := n2_; clear n0_ n1_ n2_; (try clear hb); obtain ⟨hcz25_0, hcz25_1, hcz25_2, hcz25_3, hcz25_4, hfz25_0, hfz25_1, hfz25_2, hfz25_3, hfz25_4⟩ := blk5 BK197.out) | ((with_reducible refine gate_callee (f := 58) rfl ?_); refine goesL_ (some 30) rfl rfl Tryz.func58 (by kernel_rfl) rfl #[.string a0_4] rfl (by (try simp only [List.map_toArray, List.map_cons, List.map_nil]); first | done | rfl | (simp only [List.length_drop, List.length_take]; rfl)) ?_; (with_reducible refine (zav.calls kj1 a0_4 t201 t202 t203 _ A18.out).mono ?_); rintro e w26 ⟨rfl, hb⟩; refine ⟨_, rfl, ?_⟩; have n0_ := mk0 (blk_below (obk BK197.out) hb); have n1_ := mk0 (blk_below (obk BK198.out) hb); have n2_ := mk0 (bst HB.out hb); clear BK197; clear BK198; clear HB; have BK197 := n0_; have BK198 := n1_; have HB := n2_; clear n0_ n1_ n2_; (try clear hb)) | ((with_reducible refine gate_dst (N := 6) rfl ?_); refine box_event ?hg (N := 6) ?hd (cs := #[.int .i64 0, .int .u64 0]) (t := 46) ?hr ?_; (case hd => rfl); (case hg => rfl); (case hr => first | (go_simp; done) | (go_simp; rfl)); intro gb204 hg w27 hbox hb; have n0_ := mk0 (blk_below (obk BK197.out) hb); have n1_ := mk0 (blk_below (obk BK198.out) hb); have n2_ := mk0 (bst HB.out hb); have n3_ := mk0 (hbox); have n4_ := mk0 (gle hg HB.out); have n5_ := mk0 (gle hg HB.out); have n6_ := mk0 (nlt hg BK197.out); have n7_ := mk0 (ngt hg BK197.out); have n8_ := mk0 (nlt hg BK198.out); have n9_ := mk0 (ngt hg BK198.out); clear BK197; clear BK198; clear HB; have BK197 := n0_; have BK198 := n1_; have HB := n2_; have BK204 := n3_; have GW204 := n4_; have GE204 := n5_; have NB197_204 := n6_; have NB204_197 := n7_; have NB198_204 := n8_; have NB204_198 := n9_; clear n0_ n1_ n2_ n3_ n4_ n5_ n6_ n7_ n8_ n9_; clear hb hbox hg; have hnb28 := NB204_197.out; have hnc28 := NB197_204.out; have hnb29 := NB204_198.out; have hnc29 := NB198_204.out; obtain ⟨hcz30_0, hcz30_1, hfz30_0, hfz30_1⟩ := blk2 BK204.out; obtain ⟨hcz31_0, hcz31_1, hcz31_2, hcz31_3, hcz31_4, hfz31_0, hfz31_1, hfz31_2, hfz31_3, hfz31_4⟩ := blk5 BK197.out; obtain ⟨hcz32_0, hcz32_1, hfz32_0, hfz32_1⟩ := blk2 BK198.out))
       refine bodyPost_ret (results_ct rfl _ _ gb198 46 #[.int .i64 0, .int .u64 0] (0, 0) _ rfl (by exact obk (blk_put (obk (blk_put (obk (blkf (obk (blkf (obk BK198.out) NB198_204.out)) NB198_204.out)) 0 _ rfl)) 1 _ rfl)) Tryz.underlying46 rfl (by kernel_rfl)) rfl ?_
       exact ⟨by first | rfl | (simp [*, zbe, zbf] <;> rfl) | (simp [zbe, zbf]; exact isEmpty_ne _), by exact bok HB.out⟩
      ·
       rw [if_neg c21] at H
       have c21b0 : decide (9 < t201) = false := decide_eq_false c21
       clear c21
       simp only [Option.some.injEq, Prod.mk.injEq] at H
       obtain ⟨rfl, rfl, rfl⟩ := H
       have hnb33 := NB197_198.out
       have hnc33 := NB198_197.out
       obtain ⟨hcz34_0, hcz34_1, hcz34_2, hcz34_3, hcz34_4, hfz34_0, hfz34_1, hfz34_2, hfz34_3, hfz34_4⟩ := blk5 BK197.out
       go_wp2_with (first | ((with_reducible refine gate_callee (f := 57) rfl ?_); refine goesL_ (some 18) rfl rfl Tryz.func57 (by kernel_rfl) rfl #[.string a0_4] rfl (by (try simp only [List.map_toArray, List.map_cons, List.map_nil]); first | done | rfl | (simp only [List.length_drop, List.length_take]; rfl)) ?_; (with_reducible refine (zbx.calls a0_4 t199 t200 _ A12.out).mono ?_); rintro e w35 ⟨rfl, hb⟩; refine ⟨_, rfl, ?_⟩; have n0_ := mk0 (blk_below (obk BK197.out) hb); have n1_ := mk0 (blk_below (obk BK198.out) hb); have n2_ := mk0 (bst HB.out hb); clear BK197; clear BK198; clear HB; have BK197 := n0_; have BK198 := n1_; have HB := n2_; clear n0_ n1_ n2_; (try clear hb); obtain ⟨hcz36_0, hcz36_1, hcz36_2, hcz36_3, hcz36_4, hfz36_0, hfz36_1, hfz36_2, hfz36_3, hfz36_4⟩ := blk5 BK197.out) | ((with_reducible refine gate_callee (f := 58) rfl ?_); refine goesL_ (some 30) rfl rfl Tryz.func58 (by kernel_rfl) rfl #[.string a0_4] rfl (by (try simp only [List.map_toArray, List.map_cons, List.map_nil]); first | done | rfl | (simp only [List.length_drop, List.length_take]; rfl)) ?_; (with_reducible refine (zav.calls kj1 a0_4 t201 t202 t203 _ A18.out).mono ?_); rintro e w37 ⟨rfl, hb⟩; refine ⟨_, rfl, ?_⟩; have n0_ := mk0 (blk_below (obk BK197.out) hb); have n1_ := mk0 (blk_below (obk BK198.out) hb); have n2_ := mk0 (bst HB.out hb); clear BK197; clear BK198; clear HB; have BK197 := n0_; have BK198 := n1_; have HB := n2_; clear n0_ n1_ n2_; (try clear hb)) | ((with_reducible refine gate_dst (N := 6) rfl ?_); refine box_event ?hg (N := 6) ?hd (cs := #[.int .i64 0, .int .u64 0]) (t := 46) ?hr ?_; (case hd => rfl); (case hg => rfl); (case hr => first | (go_simp; done) | (go_simp; rfl)); intro gb204 hg w38 hbox hb; have n0_ := mk0 (blk_below (obk BK197.out) hb); have n1_ := mk0 (blk_below (obk BK198.out) hb); have n2_ := mk0 (bst HB.out hb); have n3_ := mk0 (hbox); have n4_ := mk0 (gle hg HB.out); have n5_ := mk0 (gle hg HB.out); have n6_ := mk0 (nlt hg BK197.out); have n7_ := mk0 (ngt hg BK197.out); have n8_ := mk0 (nlt hg BK198.out); have n9_ := mk0 (ngt hg BK198.out); clear BK197; clear BK198; clear HB; have BK197 := n0_; have BK198 := n1_; have HB := n2_; have BK204 := n3_; have GW204 := n4_; have GE204 := n5_; have NB197_204 := n6_; have NB204_197 := n7_; have NB198_204 := n8_; have NB204_198 := n9_; clear n0_ n1_ n2_ n3_ n4_ n5_ n6_ n7_ n8_ n9_; clear hb hbox hg; have hnb39 := NB204_197.out; have hnc39 := NB197_204.out; have hnb40 := NB204_198.out; have hnc40 := NB198_204.out; obtain ⟨hcz41_0, hcz41_1, hfz41_0, hfz41_1⟩ := blk2 BK204.out; obtain ⟨hcz42_0, hcz42_1, hcz42_2, hcz42_3, hcz42_4, hfz42_0, hfz42_1, hfz42_2, hfz42_3, hfz42_4⟩ := blk5 BK197.out; obtain ⟨hcz43_0, hcz43_1, hfz43_0, hfz43_1⟩ := blk2 BK198.out))
       refine bodyPost_ret (results_ct rfl _ _ gb198 46 #[.int .i64 t201, .int .u64 t202] (0, 0) _ rfl (by exact obk (blk_put (obk (blk_put (obk (blkf (obk (blkf (obk BK198.out) NB198_204.out)) NB198_204.out)) 0 _ rfl)) 1 _ rfl)) Tryz.underlying46 rfl (by kernel_rfl)) rfl ?_
       exact ⟨by first | rfl | (simp [*, zbe, zbf] <;> rfl) | (simp [zbe, zbf]; exact isEmpty_ne _), by exact bok HB.out⟩
     ·
      rw [if_neg c20] at H
      have c20b0 : (t203 == 0) = false := beq_eq_false_iff_ne.mpr c20
      have c20b1 : (t203 != 0) = true := bne_iff_ne.mpr c20
      simp only [Option.some.injEq, Prod.mk.injEq] at H
      obtain ⟨rfl, rfl, rfl⟩ := H
      have hnb44 := NB197_198.out
      have hnc44 := NB198_197.out
      obtain ⟨hcz45_0, hcz45_1, hcz45_2, hcz45_3, hcz45_4, hfz45_0, hfz45_1, hfz45_2, hfz45_3, hfz45_4⟩ := blk5 BK197.out
      go_wp2_with (first | ((with_reducible refine gate_callee (f := 57) rfl ?_); refine goesL_ (some 18) rfl rfl Tryz.func57 (by kernel_rfl) rfl #[.string a0_4] rfl (by (try simp only [List.map_toArray, List.map_cons, List.map_nil]); first | done | rfl | (simp only [List.length_drop, List.length_take]; rfl)) ?_; (with_reducible refine (zbx.calls a0_4 t199 t200 _ A12.out).mono ?_); rintro e w46 ⟨rfl, hb⟩; refine ⟨_, rfl, ?_⟩; have n0_ := mk0 (blk_below (obk BK197.out) hb); have n1_ := mk0 (blk_below (obk BK198.out) hb); have n2_ := mk0 (bst HB.out hb); clear BK197; clear BK198; clear HB; have BK197 := n0_; have BK198 := n1_; have HB := n2_; clear n0_ n1_ n2_; (try clear hb); obtain ⟨hcz47_0, hcz47_1, hcz47_2, hcz47_3, hcz47_4, hfz47_0, hfz47_1, hfz47_2, hfz47_3, hfz47_4⟩ := blk5 BK197.out) | ((with_reducible refine gate_callee (f := 58) rfl ?_); refine goesL_ (some 30) rfl rfl Tryz.func58 (by kernel_rfl) rfl #[.string a0_4] rfl (by (try simp only [List.map_toArray, List.map_cons, List.map_nil]); first | done | rfl | (simp only [List.length_drop, List.length_take]; rfl)) ?_; (with_reducible refine (zav.calls kj1 a0_4 t201 t202 t203 _ A18.out).mono ?_); rintro e w48 ⟨rfl, hb⟩; refine ⟨_, rfl, ?_⟩; have n0_ := mk0 (blk_below (obk BK197.out) hb); have n1_ := mk0 (blk_below (obk BK198.out) hb); have n2_ := mk0 (bst HB.out hb); clear BK197; clear BK198; clear HB; have BK197 := n0_; have BK198 := n1_; have HB := n2_; clear n0_ n1_ n2_; (try clear hb)) | ((with_reducible refine gate_dst (N := 6) rfl ?_); refine box_event ?hg (N := 6) ?hd (cs := #[.int .i64 0, .int .u64 0]) (t := 46) ?hr ?_; (case hd => rfl); (case hg => rfl); (case hr => first | (go_simp; done) | (go_simp; rfl)); intro gb204 hg w49 hbox hb; have n0_ := mk0 (blk_below (obk BK197.out) hb); have n1_ := mk0 (blk_below (obk BK198.out) hb); have n2_ := mk0 (bst HB.out hb); have n3_ := mk0 (hbox); have n4_ := mk0 (gle hg HB.out); have n5_ := mk0 (gle hg HB.out); have n6_ := mk0 (nlt hg BK197.out); have n7_ := mk0 (ngt hg BK197.out); have n8_ := mk0 (nlt hg BK198.out); have n9_ := mk0 (ngt hg BK198.out); clear BK197; clear BK198; clear HB; have BK197 := n0_; have BK198 := n1_; have HB := n2_; have BK204 := n3_; have GW204 := n4_; have GE204 := n5_; have NB197_204 := n6_; have NB204_197 := n7_; have NB198_204 := n8_; have NB204_198 := n9_; clear n0_ n1_ n2_ n3_ n4_ n5_ n6_ n7_ n8_ n9_; clear hb hbox hg; have hnb50 := NB204_197.out; have hnc50 := NB197_204.out; have hnb51 := NB204_198.out; have hnc51 := NB198_204.out; obtain ⟨hcz52_0, hcz52_1, hfz52_0, hfz52_1⟩ := blk2 BK204.out; obtain ⟨hcz53_0, hcz53_1, hcz53_2, hcz53_3, hcz53_4, hfz53_0, hfz53_1, hfz53_2, hfz53_3, hfz53_4⟩ := blk5 BK197.out; obtain ⟨hcz54_0, hcz54_1, hfz54_0, hfz54_1⟩ := blk2 BK198.out))
      refine bodyPost_ret (results_ct rfl _ _ gb198 46 #[.int .i64 0, .int .u64 0] (0, 0) _ rfl (by exact obk (blk_put (obk (blk_put (obk (blkf (obk (blkf (obk BK198.out) NB198_204.out)) NB198_204.out)) 0 _ rfl)) 1 _ rfl)) Tryz.underlying46 rfl (by kernel_rfl)) rfl ?_
      exact ⟨by first | rfl | (simp [*, zbe, zbf] <;> rfl) | (simp [zbe, zbf]; exact isEmpty_ne _), by exact bok HB.out⟩
    ·
     rw [if_neg c19] at H
     have c19b0 : (a0_0 == 9) = false := beq_eq_false_iff_ne.mpr c19
     have c19b1 : (a0_0 != 9) = true := bne_iff_ne.mpr c19
     simp only [Option.some.injEq, Prod.mk.injEq] at H
     obtain ⟨rfl, rfl, rfl⟩ := H
     have hnb55 := NB197_198.out
     have hnc55 := NB198_197.out
     obtain ⟨hcz56_0, hcz56_1, hcz56_2, hcz56_3, hcz56_4, hfz56_0, hfz56_1, hfz56_2, hfz56_3, hfz56_4⟩ := blk5 BK197.out
     go_wp2_with (first | ((with_reducible refine gate_callee (f := 57) rfl ?_); refine goesL_ (some 18) rfl rfl Tryz.func57 (by kernel_rfl) rfl #[.string a0_4] rfl (by (try simp only [List.map_toArray, List.map_cons, List.map_nil]); first | done | rfl | (simp only [List.length_drop, List.length_take]; rfl)) ?_; (with_reducible refine (zbx.calls a0_4 t199 t200 _ A12.out).mono ?_); rintro e w57 ⟨rfl, hb⟩; refine ⟨_, rfl, ?_⟩; have n0_ := mk0 (blk_below (obk BK197.out) hb); have n1_ := mk0 (blk_below (obk BK198.out) hb); have n2_ := mk0 (bst HB.out hb); clear BK197; clear BK198; clear HB; have BK197 := n0_; have BK198 := n1_; have HB := n2_; clear n0_ n1_ n2_; (try clear hb); obtain ⟨hcz58_0, hcz58_1, hcz58_2, hcz58_3, hcz58_4, hfz58_0, hfz58_1, hfz58_2, hfz58_3, hfz58_4⟩ := blk5 BK197.out) | ((with_reducible refine gate_callee (f := 58) rfl ?_); refine goesL_ (some 30) rfl rfl Tryz.func58 (by kernel_rfl) rfl #[.string a0_4] rfl (by (try simp only [List.map_toArray, List.map_cons, List.map_nil]); first | done | rfl | (simp only [List.length_drop, List.length_take]; rfl)) ?_; (with_reducible refine (zav.calls kj1 a0_4 t201 t202 t203 _ A18.out).mono ?_); rintro e w59 ⟨rfl, hb⟩; refine ⟨_, rfl, ?_⟩; have n0_ := mk0 (blk_below (obk BK197.out) hb); have n1_ := mk0 (blk_below (obk BK198.out) hb); have n2_ := mk0 (bst HB.out hb); clear BK197; clear BK198; clear HB; have BK197 := n0_; have BK198 := n1_; have HB := n2_; clear n0_ n1_ n2_; (try clear hb)) | ((with_reducible refine gate_dst (N := 6) rfl ?_); refine box_event ?hg (N := 6) ?hd (cs := #[.int .i64 0, .int .u64 0]) (t := 46) ?hr ?_; (case hd => rfl); (case hg => rfl); (case hr => first | (go_simp; done) | (go_simp; rfl)); intro gb204 hg w60 hbox hb; have n0_ := mk0 (blk_below (obk BK197.out) hb); have n1_ := mk0 (blk_below (obk BK198.out) hb); have n2_ := mk0 (bst HB.out hb); have n3_ := mk0 (hbox); have n4_ := mk0 (gle hg HB.out); have n5_ := mk0 (gle hg HB.out); have n6_ := mk0 (nlt hg BK197.out); have n7_ := mk0 (ngt hg BK197.out); have n8_ := mk0 (nlt hg BK198.out); have n9_ := mk0 (ngt hg BK198.out); clear BK197; clear BK198; clear HB; have BK197 := n0_; have BK198 := n1_; have HB := n2_; have BK204 := n3_; have GW204 := n4_; have GE204 := n5_; have NB197_204 := n6_; have NB204_197 := n7_; have NB198_204 := n8_; have NB204_198 := n9_; clear n0_ n1_ n2_ n3_ n4_ n5_ n6_ n7_ n8_ n9_; clear hb hbox hg; have hnb61 := NB204_197.out; have hnc61 := NB197_204.out; have hnb62 := NB204_198.out; have hnc62 := NB198_204.out; obtain ⟨hcz63_0, hcz63_1, hfz63_0, hfz63_1⟩ := blk2 BK204.out; obtain ⟨hcz64_0, hcz64_1, hcz64_2, hcz64_3, hcz64_4, hfz64_0, hfz64_1, hfz64_2, hfz64_3, hfz64_4⟩ := blk5 BK197.out; obtain ⟨hcz65_0, hcz65_1, hfz65_0, hfz65_1⟩ := blk2 BK198.out))
     refine bodyPost_ret (results_ct rfl _ _ gb198 46 #[.int .i64 0, .int .u64 0] (0, 0) _ rfl (by exact obk (blk_put (obk (blk_put (obk (blkf (obk (blkf (obk BK198.out) NB198_204.out)) NB198_204.out)) 0 _ rfl)) 1 _ rfl)) Tryz.underlying46 rfl (by kernel_rfl)) rfl ?_
     exact ⟨by first | rfl | (simp [*, zbe, zbf] <;> rfl) | (simp [zbe, zbf]; exact isEmpty_ne _), by exact bok HB.out⟩

/-! ### zbo: function 27 -/
def zbo.f (a0 : Int) : Option (Bool) := if a0 = 7 then (some true) else (some (a0 == 9))
theorem zbo.calls (a0 : Int) (r : Bool) (w : World) (h : zbo.f a0 = some r) :
  Calls Tryz.prog 27 #[.int .i64 a0] w fun e w' => e = .returned (.bool r) ∧ Drawn0 w w' := by
 have H : (if a0 = 7 then (some true) else (some (a0 == 9))) = some r := h
 clear h
 by_cases c2 : a0 = 7
 ·
  rw [if_pos c2] at H
  have c2b0 : (a0 == 7) = true := beq_iff_eq.mpr c2
  have c2b1 : (a0 != 7) = false := bne_eq_false_iff_eq.mpr c2
  clear c2
  obtain rfl := Option.some.inj H
  go_enter Tryz.func27, Tryz.ntmps27
  go_wp2
  go_ret
  exact ⟨by first | rfl | (simp; done) | (simp [*]; done) | (simp; exact isEmpty_ne _), by repeat (first | exact Drawn0.refl _ | apply Drawn0.step)⟩
 ·
  rw [if_neg c2] at H
  have c2b0 : (a0 == 7) = false := beq_eq_false_iff_ne.mpr c2
  have c2b1 : (a0 != 7) = true := bne_iff_ne.mpr c2
  obtain rfl := Option.some.inj H
  go_enter Tryz.func27, Tryz.ntmps27
  go_wp2
  go_ret
  exact ⟨by first | rfl | (simp; done) | (simp [*]; done) | (simp; exact isEmpty_ne _), by repeat (first | exact Drawn0.refl _ | apply Drawn0.step)⟩

/-! ### zbn: function 45 -/
def zbn.f (a0 : Int) : Option (Bool) := if a0 = 3 then (some true) else (some (a0 == 7))
theorem zbn.calls (a0 : Int) (r : Bool) (w : World) (h : zbn.f a0 = some r) :
  Calls Tryz.prog 45 #[.int .i64 a0] w fun e w' => e = .returned (.bool r) ∧ Drawn0 w w' := by
 have H : (if a0 = 3 then (some true) else (some (a0 == 7))) = some r := h
 clear h
 by_cases c2 : a0 = 3
 ·
  rw [if_pos c2] at H
  have c2b0 : (a0 == 3) = true := beq_iff_eq.mpr c2
  have c2b1 : (a0 != 3) = false := bne_eq_false_iff_eq.mpr c2
  clear c2
  obtain rfl := Option.some.inj H
  go_enter Tryz.func45, Tryz.ntmps45
  go_wp2
  go_ret
  exact ⟨by first | rfl | (simp; done) | (simp [*]; done) | (simp; exact isEmpty_ne _), by repeat (first | exact Drawn0.refl _ | apply Drawn0.step)⟩
 ·
  rw [if_neg c2] at H
  have c2b0 : (a0 == 3) = false := beq_eq_false_iff_ne.mpr c2
  have c2b1 : (a0 != 3) = true := bne_iff_ne.mpr c2
  obtain rfl := Option.some.inj H
  go_enter Tryz.func45, Tryz.ntmps45
  go_wp2
  go_ret
  exact ⟨by first | rfl | (simp; done) | (simp [*]; done) | (simp; exact isEmpty_ne _), by repeat (first | exact Drawn0.refl _ | apply Drawn0.step)⟩

/-! ### zbk: function 43 -/
def zbk.f (a0 : Int) : Option (Bool) := if a0 = 8 then (some true) else (some (a0 == 9))
theorem zbk.calls (a0 : Int) (r : Bool) (w : World) (h : zbk.f a0 = some r) :
  Calls Tryz.prog 43 #[.int .i64 a0] w fun e w' => e = .returned (.bool r) ∧ Drawn0 w w' := by
 have H : (if a0 = 8 then (some true) else (some (a0 == 9))) = some r := h
 clear h
 by_cases c2 : a0 = 8
 ·
  rw [if_pos c2] at H
  have c2b0 : (a0 == 8) = true := beq_iff_eq.mpr c2
  have c2b1 : (a0 != 8) = false := bne_eq_false_iff_eq.mpr c2
  clear c2
  obtain rfl := Option.some.inj H
  go_enter Tryz.func43, Tryz.ntmps43
  go_wp2
  go_ret
  exact ⟨by first | rfl | (simp; done) | (simp [*]; done) | (simp; exact isEmpty_ne _), by repeat (first | exact Drawn0.refl _ | apply Drawn0.step)⟩
 ·
  rw [if_neg c2] at H
  have c2b0 : (a0 == 8) = false := beq_eq_false_iff_ne.mpr c2
  have c2b1 : (a0 != 8) = true := bne_iff_ne.mpr c2
  obtain rfl := Option.some.inj H
  go_enter Tryz.func43, Tryz.ntmps43
  go_wp2
  go_ret
  exact ⟨by first | rfl | (simp; done) | (simp [*]; done) | (simp; exact isEmpty_ne _), by repeat (first | exact Drawn0.refl _ | apply Drawn0.step)⟩

/-! ### zbp: function 47 -/
def zbp.f (a0 : Int) : Option (Bool) := if a0 = 5 then (some true) else (some (a0 == 6))
theorem zbp.calls (a0 : Int) (r : Bool) (w : World) (h : zbp.f a0 = some r) :
  Calls Tryz.prog 47 #[.int .i64 a0] w fun e w' => e = .returned (.bool r) ∧ Drawn0 w w' := by
 have H : (if a0 = 5 then (some true) else (some (a0 == 6))) = some r := h
 clear h
 by_cases c2 : a0 = 5
 ·
  rw [if_pos c2] at H
  have c2b0 : (a0 == 5) = true := beq_iff_eq.mpr c2
  have c2b1 : (a0 != 5) = false := bne_eq_false_iff_eq.mpr c2
  clear c2
  obtain rfl := Option.some.inj H
  go_enter Tryz.func47, Tryz.ntmps47
  go_wp2
  go_ret
  exact ⟨by first | rfl | (simp; done) | (simp [*]; done) | (simp; exact isEmpty_ne _), by repeat (first | exact Drawn0.refl _ | apply Drawn0.step)⟩
 ·
  rw [if_neg c2] at H
  have c2b0 : (a0 == 5) = false := beq_eq_false_iff_ne.mpr c2
  have c2b1 : (a0 != 5) = true := bne_iff_ne.mpr c2
  obtain rfl := Option.some.inj H
  go_enter Tryz.func47, Tryz.ntmps47
  go_wp2
  go_ret
  exact ⟨by first | rfl | (simp; done) | (simp [*]; done) | (simp; exact isEmpty_ne _), by repeat (first | exact Drawn0.refl _ | apply Drawn0.step)⟩

end Go.Proofs.YtcaegaljhogbjaaGreatDoor.Y
