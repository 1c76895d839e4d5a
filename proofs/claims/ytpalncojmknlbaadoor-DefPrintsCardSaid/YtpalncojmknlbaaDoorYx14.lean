/- What Go functions compute, as plain Lean functions, and that the machine comes to just that: written by wip/tools/printx.py (my run of the printer, with contracts of mine beside it). -/
import Derived.Test.YtpalncojmknlbaaDoorOn
import Derived.Test.YtpalncojmknlbaaDoorDefNode
import Derived.Test.YtpalncojmknlbaaDoorDefWrite
import Derived.Test.YtpalncojmknlbaaDoorAx2
import Derived.Test.YtpalncojmknlbaaDoorYx0
import Derived.Test.YtpalncojmknlbaaDoorYx2
import Derived.Test.YtpalncojmknlbaaDoorYx3
import Derived.Test.YtpalncojmknlbaaDoorYx5
import Derived.Test.YtpalncojmknlbaaDoorRefText
import Derived.Test.YtpalncojmknlbaaDoorYx13
namespace Go.Proofs.YtpalncojmknlbaaDoor.Y
open Go.Proofs.YtpalncojmknlbaaDoor.Ext Go.Proofs.YtpalncojmknlbaaDoor.A Go.RowKit Go.Proofs.YtpalncojmknlbaaDoorW.PrintWords Go.Proofs.YtpalncojmknlbaaDoorW.PrintLast Go.Proofs.YtpalncojmknlbaaDoorW.PrintMore
attribute [local go_sem] max2_int min2_int max_two min_two max_three min_three max_four min_four   -- for this text's walks alone
set_option linter.unusedVariables false
set_option linter.unusedSimpArgs false

attribute [local go_sem high] eqA40 eqA42
/-! ### remontoirref17_Same: function 20 -/
mutual
def remontoirref17_Same.j0 : Nat → Bool → ByteArray → List (S40) → List (S42) → ByteArray → List (S40) → List (S42) → Option (Bool)
 | 0, _, _, _, _, _, _, _ => none
 | k + 1, x29, x326000, x326001, x326002, x327000, x327001, x327002 => if x29 = true then (some false) else (remontoirref17_Same.l0 k 0 x326000 x326001 x326002 x327000 x327001 x327002)
def remontoirref17_Same.l0 : Nat → Int → ByteArray → List (S40) → List (S42) → ByteArray → List (S40) → List (S42) → Option (Bool)
 | 0, _, _, _, _, _, _, _ => none
 | k + 1, x5, x326000, x326001, x326002, x327000, x327001, x327002 => if x5 < (x326001.length : Int) then (if 0 ≤ x5 then (if x5 < (x327001.length : Int) then (if (!(((rd_T40 x326001 x5).f0) == ((rd_T40 x327001 x5).f0)) || (!(((rd_T40 x326001 x5).f1) == ((rd_T40 x327001 x5).f1)) || (!(((rd_T40 x326001 x5).f2) == ((rd_T40 x327001 x5).f2)) || (!(((rd_T40 x326001 x5).f3) == ((rd_T40 x327001 x5).f3)) || (!((((rd_T40 x326001 x5).f4).toList) == (((rd_T40 x327001 x5).f4).toList))))))) = true then (some false) else (remontoirref17_Same.l0 k (wrap64 (x5 + 1)) x326000 x326001 x326002 x327000 x327001 x327002)) else (none)) else (none)) else (remontoirref17_Same.l1 k 0 x326000 x326001 x326002 x327000 x327001 x327002)
def remontoirref17_Same.l1 : Nat → Int → ByteArray → List (S40) → List (S42) → ByteArray → List (S40) → List (S42) → Option (Bool)
 | 0, _, _, _, _, _, _, _ => none
 | k + 1, x6, x326000, x326001, x326002, x327000, x327001, x327002 => if x6 < (x326002.length : Int) then (if 0 ≤ x6 then (if x6 < (x327002.length : Int) then (if (!(((rd_T42 x326002 x6).f0) == ((rd_T42 x327002 x6).f0)) || (!(((rd_T42 x326002 x6).f1) == ((rd_T42 x327002 x6).f1)) || (!(((rd_T42 x326002 x6).f2) == ((rd_T42 x327002 x6).f2)) || (!(((rd_T42 x326002 x6).f3) == ((rd_T42 x327002 x6).f3)) || (!((((rd_T42 x326002 x6).f4).toList) == (((rd_T42 x327002 x6).f4).toList))))))) = true then (some false) else (remontoirref17_Same.l1 k (wrap64 (x6 + 1)) x326000 x326001 x326002 x327000 x327001 x327002)) else (none)) else (none)) else (some true)
end
def remontoirref17_Same.f (k : Nat) (a0_0 : ByteArray) (l0_1 : List (S40)) (l0_2 : List (S42)) (a1_0 : ByteArray) (l1_1 : List (S40)) (l1_2 : List (S42)) : Option (Bool) := if a0_0.toList = a1_0.toList then (if (l0_1.length : Int) = (l1_1.length : Int) then (remontoirref17_Same.j0 k ((l0_2.length : Int) != (l1_2.length : Int)) a0_0 l0_1 l0_2 a1_0 l1_1 l1_2) else (remontoirref17_Same.j0 k true a0_0 l0_1 l0_2 a1_0 l1_1 l1_2)) else (remontoirref17_Same.j0 k true a0_0 l0_1 l0_2 a1_0 l1_1 l1_2)
set_option maxHeartbeats 8000000 in
set_option maxRecDepth 100000 in
theorem remontoirref17_Same.calls (k : Nat) (a0_0 : ByteArray) (A0_1 : Option Addr) (c0_1 : Nat) (l0_1 : List (S40)) (A0_2 : Option Addr) (c0_2 : Nat) (l0_2 : List (S42)) (a1_0 : ByteArray) (A1_1 : Option Addr) (c1_1 : Nat) (l1_1 : List (S40)) (A1_2 : Option Addr) (c1_2 : Nat) (l1_2 : List (S42)) (r : Bool) (w : World) (hr0_1 : Kd.C k40 w A0_1 l0_1.length l0_1) (hc0_1 : l0_1.length ≤ c0_1) (hr0_2 : Kd.C k42 w A0_2 l0_2.length l0_2) (hc0_2 : l0_2.length ≤ c0_2) (hr1_1 : Kd.C k40 w A1_1 l1_1.length l1_1) (hc1_1 : l1_1.length ≤ c1_1) (hr1_2 : Kd.C k42 w A1_2 l1_2.length l1_2) (hc1_2 : l1_2.length ≤ c1_2) (h : remontoirref17_Same.f k a0_0 l0_1 l0_2 a1_0 l1_1 l1_2 = some r) :
  Calls Tryd.prog 20 #[.agg #[.string a0_0, .slice A0_1 l0_1.length c0_1, .slice A0_2 l0_2.length c0_2], .agg #[.string a1_0, .slice A1_1 l1_1.length c1_1, .slice A1_2 l1_2.length c1_2]] w fun e w' => e = .returned (.bool r) ∧ Below w.heap.size w w' := by
 have hu25 := Tryd.underlying25
 have hu40 := Tryd.underlying40
 have hu42 := Tryd.underlying42
 have HR0_1 := mk0 hr0_1
 have HC0_1 := mk0 hc0_1
 clear hr0_1 hc0_1
 have HR0_2 := mk0 hr0_2
 have HC0_2 := mk0 hc0_2
 clear hr0_2 hc0_2
 have HR1_1 := mk0 hr1_1
 have HC1_1 := mk0 hc1_1
 clear hr1_1 hc1_1
 have HR1_2 := mk0 hr1_2
 have HC1_2 := mk0 hc1_2
 clear hr1_2 hc1_2
 have HB := mk0 (Below.refl w.heap.size w)
 have H : (if a0_0.toList = a1_0.toList then (if (l0_1.length : Int) = (l1_1.length : Int) then (remontoirref17_Same.j0 k ((l0_2.length : Int) != (l1_2.length : Int)) a0_0 l0_1 l0_2 a1_0 l1_1 l1_2) else (remontoirref17_Same.j0 k true a0_0 l0_1 l0_2 a1_0 l1_1 l1_2)) else (remontoirref17_Same.j0 k true a0_0 l0_1 l0_2 a1_0 l1_1 l1_2)) = some r := h
 clear h
 have HC3 := mk0 H
 clear H
 go_enter Tryd.func20, Tryd.ntmps20
 go_upto_region 1 with (first | ((with_reducible refine gate_dst (N := 2) rfl ?_); (try (refine gate_guard (by rfl) ?_; dsimp only)); refine box_event ?hg (N := 2) ?hd (cs := #[.string a0_0, .slice A0_1 l0_1.length c0_1, .slice A0_2 l0_2.length c0_2]) (t := 25) ?hr ?_; (case hd => rfl); (case hg => rfl); (case hr => first | (go_simp; done) | (go_simp; rfl)); intro gb325 hg w4 hbox hb; have n0_ := mk0 (bst HB.out hb); have n1_ := mk0 (hbox); have n2_ := mk0 (gle hg HB.out); have n3_ := mk0 (gle hg HB.out); clear HB; have HB := n0_; have BK325 := n1_; have GW325 := n2_; have GE325 := n3_; clear n0_ n1_ n2_ n3_; clear hb hbox hg) | ((with_reducible refine gate_dst (N := 3) rfl ?_); (try (refine gate_guard (by rfl) ?_; dsimp only)); refine box_event ?hg (N := 3) ?hd (cs := #[.string a1_0, .slice A1_1 l1_1.length c1_1, .slice A1_2 l1_2.length c1_2]) (t := 25) ?hr ?_; (case hd => rfl); (case hg => rfl); (case hr => first | (go_simp; done) | (go_simp; rfl)); intro gb326 hg w5 hbox hb; have n0_ := mk0 (blk_below (obk BK325.out) hb); have n1_ := mk0 (bst HB.out hb); have n2_ := mk0 (hbox); have n3_ := mk0 (gle hg HB.out); have n4_ := mk0 (gle hg HB.out); have n5_ := mk0 (nlt hg BK325.out); have n6_ := mk0 (ngt hg BK325.out); clear BK325; clear HB; have BK325 := n0_; have HB := n1_; have BK326 := n2_; have GW326 := n3_; have GE326 := n4_; have NB325_326 := n5_; have NB326_325 := n6_; clear n0_ n1_ n2_ n3_ n4_ n5_ n6_; clear hb hbox hg))
 repeat (go_quiet (first | ((with_reducible refine gate_dst (N := 2) rfl ?_); (try (refine gate_guard (by rfl) ?_; dsimp only)); refine box_event ?hg (N := 2) ?hd (cs := #[.string a0_0, .slice A0_1 l0_1.length c0_1, .slice A0_2 l0_2.length c0_2]) (t := 25) ?hr ?_; (case hd => rfl); (case hg => rfl); (case hr => first | (go_simp; done) | (go_simp; rfl)); intro gb325 hg w4 hbox hb; have n0_ := mk0 (bst HB.out hb); have n1_ := mk0 (hbox); have n2_ := mk0 (gle hg HB.out); have n3_ := mk0 (gle hg HB.out); clear HB; have HB := n0_; have BK325 := n1_; have GW325 := n2_; have GE325 := n3_; clear n0_ n1_ n2_ n3_; clear hb hbox hg) | ((with_reducible refine gate_dst (N := 3) rfl ?_); (try (refine gate_guard (by rfl) ?_; dsimp only)); refine box_event ?hg (N := 3) ?hd (cs := #[.string a1_0, .slice A1_1 l1_1.length c1_1, .slice A1_2 l1_2.length c1_2]) (t := 25) ?hr ?_; (case hd => rfl); (case hg => rfl); (case hr => first | (go_simp; done) | (go_simp; rfl)); intro gb326 hg w5 hbox hb; have n0_ := mk0 (blk_below (obk BK325.out) hb); have n1_ := mk0 (bst HB.out hb); have n2_ := mk0 (hbox); have n3_ := mk0 (gle hg HB.out); have n4_ := mk0 (gle hg HB.out); have n5_ := mk0 (nlt hg BK325.out); have n6_ := mk0 (ngt hg BK325.out); clear BK325; clear HB; have BK325 := n0_; have HB := n1_; have BK326 := n2_; have GW326 := n3_; have GE326 := n4_; have NB325_326 := n5_; have NB326_325 := n6_; clear n0_ n1_ n2_ n3_ n4_ n5_ n6_; clear hb hbox hg)); go_upto_region 1 with (first | ((with_reducible refine gate_dst (N := 2) rfl ?_); (try (refine gate_guard (by rfl) ?_; dsimp only)); refine box_event ?hg (N := 2) ?hd (cs := #[.string a0_0, .slice A0_1 l0_1.length c0_1, .slice A0_2 l0_2.length c0_2]) (t := 25) ?hr ?_; (case hd => rfl); (case hg => rfl); (case hr => first | (go_simp; done) | (go_simp; rfl)); intro gb325 hg w4 hbox hb; have n0_ := mk0 (bst HB.out hb); have n1_ := mk0 (hbox); have n2_ := mk0 (gle hg HB.out); have n3_ := mk0 (gle hg HB.out); clear HB; have HB := n0_; have BK325 := n1_; have GW325 := n2_; have GE325 := n3_; clear n0_ n1_ n2_ n3_; clear hb hbox hg) | ((with_reducible refine gate_dst (N := 3) rfl ?_); (try (refine gate_guard (by rfl) ?_; dsimp only)); refine box_event ?hg (N := 3) ?hd (cs := #[.string a1_0, .slice A1_1 l1_1.length c1_1, .slice A1_2 l1_2.length c1_2]) (t := 25) ?hr ?_; (case hd => rfl); (case hg => rfl); (case hr => first | (go_simp; done) | (go_simp; rfl)); intro gb326 hg w5 hbox hb; have n0_ := mk0 (blk_below (obk BK325.out) hb); have n1_ := mk0 (bst HB.out hb); have n2_ := mk0 (hbox); have n3_ := mk0 (gle hg HB.out); have n4_ := mk0 (gle hg HB.out); have n5_ := mk0 (nlt hg BK325.out); have n6_ := mk0 (ngt hg BK325.out); clear BK325; clear HB; have BK325 := n0_; have HB := n1_; have BK326 := n2_; have GW326 := n3_; have GE326 := n4_; have NB325_326 := n5_; have NB326_325 := n6_; clear n0_ n1_ n2_ n3_ n4_ n5_ n6_; clear hb hbox hg)))
 (try simp only [Act.put, List.setIfInBounds_toArray, List.set_cons_zero, List.set_cons_succ])
 go_cut [29] (fun v29 wc => ∃ (kq : Nat) (x29_2 : Bool), v29 = .bool x29_2 ∧ Aside0 (remontoirref17_Same.j0 kq x29_2 a0_0 l0_1 l0_2 a1_0 l1_1 l1_2 = some r) ∧ Aside0 (kq ≤ k) ∧ Aside0 (wc.heap[gb325]? = some (.cells #[.string a0_0, (.slice A0_1 l0_1.length c0_1), (.slice A0_2 l0_2.length c0_2)] 25 (0, 0))) ∧ Aside0 (wc.heap[gb326]? = some (.cells #[.string a1_0, (.slice A1_1 l1_1.length c1_1), (.slice A1_2 l1_2.length c1_2)] 25 (0, 0))) ∧ Aside0 (Below w.heap.size w wc))
 case first =>
  have H := HC3.out
  clear HC3
  by_cases c6 : a0_0.toList = a1_0.toList
  ·
   rw [if_pos c6] at H
   have c6b0 : (a0_0.toList == a1_0.toList) = true := beq_iff_eq.mpr c6
   have c6b1 : (a0_0.toList != a1_0.toList) = false := bne_eq_false_iff_eq.mpr c6
   clear c6
   (first | rw [c6b0] | (simp only [i64_w, i32_w]; rw [c6b0]) | skip)
   by_cases c7 : (l0_1.length : Int) = (l1_1.length : Int)
   ·
    rw [if_pos c7] at H
    have c7b0 : ((l0_1.length : Int) == (l1_1.length : Int)) = true := beq_iff_eq.mpr c7
    have c7b1 : ((l0_1.length : Int) != (l1_1.length : Int)) = false := bne_eq_false_iff_eq.mpr c7
    have c7b2 : (l0_1.length == l1_1.length) = true := by first | simpa using c7 | (simp at c7 ⊢; omega)
    clear c7
    have H' := mk0 H
    clear H
    have hnb8 := NB325_326.out
    have hnc8 := NB326_325.out
    obtain ⟨hcz9_0, hcz9_1, hcz9_2, hfz9_0, hfz9_1, hfz9_2⟩ := blk3 BK325.out
    obtain ⟨hcz10_0, hcz10_1, hcz10_2, hfz10_0, hfz10_1, hfz10_2⟩ := blk3 BK326.out
    go_wp2
    repeat (go_quiet (fail); try go_wp2)
    go_meet
    case rel => exact ⟨_, (((l0_2.length : Int) != (l1_2.length : Int))), (by first | rfl | (simp; done) | (simp [*]; done)), H', ⟨by first | omega | exact Nat.le_refl _⟩, ⟨by exact obk BK325.out⟩, ⟨by exact obk BK326.out⟩, ⟨by exact bok HB.out⟩⟩
   ·
    rw [if_neg c7] at H
    have c7b0 : ((l0_1.length : Int) == (l1_1.length : Int)) = false := beq_eq_false_iff_ne.mpr c7
    have c7b1 : ((l0_1.length : Int) != (l1_1.length : Int)) = true := bne_iff_ne.mpr c7
    have c7b2 : (l0_1.length == l1_1.length) = false := by first | simpa using c7 | (simp at c7 ⊢; omega)
    have H' := mk0 H
    clear H
    have hnb11 := NB325_326.out
    have hnc11 := NB326_325.out
    obtain ⟨hcz12_0, hcz12_1, hcz12_2, hfz12_0, hfz12_1, hfz12_2⟩ := blk3 BK325.out
    obtain ⟨hcz13_0, hcz13_1, hcz13_2, hfz13_0, hfz13_1, hfz13_2⟩ := blk3 BK326.out
    go_wp2
    repeat (go_quiet (fail); try go_wp2)
    go_meet
    case rel => exact ⟨_, (true), (by first | rfl | (simp; done) | (simp [*]; done)), H', ⟨by first | omega | exact Nat.le_refl _⟩, ⟨by exact obk BK325.out⟩, ⟨by exact obk BK326.out⟩, ⟨by exact bok HB.out⟩⟩
  ·
   rw [if_neg c6] at H
   have c6b0 : (a0_0.toList == a1_0.toList) = false := beq_eq_false_iff_ne.mpr c6
   have c6b1 : (a0_0.toList != a1_0.toList) = true := bne_iff_ne.mpr c6
   (first | rw [c6b0] | (simp only [i64_w, i32_w]; rw [c6b0]) | skip)
   have H' := mk0 H
   clear H
   have hnb14 := NB325_326.out
   have hnc14 := NB326_325.out
   obtain ⟨hcz15_0, hcz15_1, hcz15_2, hfz15_0, hfz15_1, hfz15_2⟩ := blk3 BK325.out
   obtain ⟨hcz16_0, hcz16_1, hcz16_2, hfz16_0, hfz16_1, hfz16_2⟩ := blk3 BK326.out
   go_wp2
   repeat (go_quiet (fail); try go_wp2)
   go_meet
   case rel => exact ⟨_, (true), (by first | rfl | (simp; done) | (simp [*]; done)), H', ⟨by first | omega | exact Nat.le_refl _⟩, ⟨by exact obk BK325.out⟩, ⟨by exact obk BK326.out⟩, ⟨by exact bok HB.out⟩⟩
 case rest =>
  clear HC3
  try clear c1
  try clear c2
  try clear p2
  try clear c6
  try clear c6b0
  try clear c6b1
  try clear c7
  try clear c7b0
  try clear c7b1
  try clear c7b2
  try clear c8
  try clear c11
  try clear c14
  obtain ⟨kq, x29_2, rfl, HA, HJ2, BK325, BK326, HB⟩ := hcut
  cases kq with
  | zero => exact absurd HA.out (by simp [remontoirref17_Same.j0])
  | succ kj2 =>
   have H := HA.out
   clear HA
   simp only [remontoirref17_Same.j0] at H
   by_cases c17 : x29_2 = true
   ·
    subst c17
    have H1 : (some false) = some r := by rw [if_pos rfl] at H; exact H
    clear H
    have H := H1
    clear H1
    obtain rfl := Option.some.inj H
    go_wp2
    repeat (go_quiet (fail); try go_wp2)
    go_ret
    exact ⟨by first | rfl | (simp [*, errW_none, errW_some] <;> rfl), by exact bok HB.out⟩
   ·
    replace c17 := Bool.eq_false_iff.mpr c17
    subst c17
    have H1 : (remontoirref17_Same.l0 kj2 0 a0_0 l0_1 l0_2 a1_0 l1_1 l1_2) = some r := by rw [if_neg (show ¬ (false = true) by decide)] at H; exact H
    clear H
    have H := H1
    clear H1
    have H' := mk0 H
    clear H
    go_wp2
    repeat (go_quiet (fail); try go_wp2)
    go_loopg [5] kj2 (fun kq v5 w' => ∃ (x5_2 : Int), v5 = .int .i64 x5_2 ∧ Aside0 (remontoirref17_Same.l0 kq x5_2 a0_0 l0_1 l0_2 a1_0 l1_1 l1_2 = some r) ∧ Aside0 (kq ≤ kj2) ∧ Aside0 (w'.heap[gb325]? = some (.cells #[.string a0_0, (.slice A0_1 l0_1.length c0_1), (.slice A0_2 l0_2.length c0_2)] 25 (0, 0))) ∧ Aside0 (w'.heap[gb326]? = some (.cells #[.string a1_0, (.slice A1_1 l1_1.length c1_1), (.slice A1_2 l1_2.length c1_2)] 25 (0, 0))) ∧ Aside0 (Below w.heap.size w w'))
    case atStart => exact ⟨(0), (by first | rfl | (simp; done) | (simp [*]; done)), H', ⟨Nat.le_refl _⟩, ⟨by exact obk BK325.out⟩, ⟨by exact obk BK326.out⟩, ⟨by exact bok HB.out⟩⟩
    case round =>
     clear H'
     try clear c1
     try clear c2
     try clear p2
     try clear c6
     try clear c6b0
     try clear c6b1
     try clear c7
     try clear c7b0
     try clear c7b1
     try clear c7b2
     try clear c8
     try clear c11
     try clear c14
     try clear c17
     try clear p2
     obtain ⟨x5_2, rfl, HA, HK2, BK325, BK326, HB⟩ := hrel
     cases gk with
     | zero => exact absurd HA.out (by simp [remontoirref17_Same.l0])
     | succ k2 =>
      have H := HA.out
      clear HA
      simp only [remontoirref17_Same.l0] at H
      by_cases c18 : x5_2 < (l0_1.length : Int)
      ·
       rw [if_pos c18] at H
       have c18b0 : decide (x5_2 < (l0_1.length : Int)) = true := decide_eq_true c18
       clear c18
       by_cases c19 : 0 ≤ x5_2
       ·
        rw [if_pos c19] at H
        have c19b0 : decide (0 ≤ x5_2) = true := decide_eq_true c19
        clear c19
        by_cases c20 : x5_2 < (l1_1.length : Int)
        ·
         rw [if_pos c20] at H
         have c20b0 : decide (x5_2 < (l1_1.length : Int)) = true := decide_eq_true c20
         clear c20
         by_cases c21 : (!(((rd_T40 l0_1 x5_2).f0) == ((rd_T40 l1_1 x5_2).f0)) || (!(((rd_T40 l0_1 x5_2).f1) == ((rd_T40 l1_1 x5_2).f1)) || (!(((rd_T40 l0_1 x5_2).f2) == ((rd_T40 l1_1 x5_2).f2)) || (!(((rd_T40 l0_1 x5_2).f3) == ((rd_T40 l1_1 x5_2).f3)) || (!((((rd_T40 l0_1 x5_2).f4).toList) == (((rd_T40 l1_1 x5_2).f4).toList))))))) = true
         ·
          rw [if_pos c21] at H
          have c21b0 : (!(((rd_T40 l0_1 x5_2).f0) == ((rd_T40 l1_1 x5_2).f0)) || (!(((rd_T40 l0_1 x5_2).f1) == ((rd_T40 l1_1 x5_2).f1)) || (!(((rd_T40 l0_1 x5_2).f2) == ((rd_T40 l1_1 x5_2).f2)) || (!(((rd_T40 l0_1 x5_2).f3) == ((rd_T40 l1_1 x5_2).f3)) || (!((((rd_T40 l0_1 x5_2).f4).toList) == (((rd_T40 l1_1 x5_2).f4).toList))))))) = true := c21
          clear c21
          obtain rfl := Option.some.inj H
          have hnb22 := NB325_326.out
          have hnc22 := NB326_325.out
          obtain ⟨hcz23_0, hcz23_1, hcz23_2, hfz23_0, hfz23_1, hfz23_2⟩ := blk3 BK325.out
          have p327 : 0 ≤ (x5_2 : Int) := of_decide_eq_true (by assumption)
          have q327 : x5_2 < (l0_1.length : Int) := of_decide_eq_true (by assumption)
          obtain ⟨ad327, e327, hx327_0, hx327_1, hx327_2, hx327_3, hx327_4⟩ := at_T40 HR0_1.out x5_2 p327 q327
          cases e327
          replace hx327_0 := (HB.out.cell (World.block_lt_of_cell? w _ hx327_0)).trans hx327_0
          replace hx327_1 := (HB.out.cell (World.block_lt_of_cell? w _ hx327_1)).trans hx327_1
          replace hx327_2 := (HB.out.cell (World.block_lt_of_cell? w _ hx327_2)).trans hx327_2
          replace hx327_3 := (HB.out.cell (World.block_lt_of_cell? w _ hx327_3)).trans hx327_3
          replace hx327_4 := (HB.out.cell (World.block_lt_of_cell? w _ hx327_4)).trans hx327_4
          replace p327 := eq_true p327
          replace q327 := eq_true q327
          obtain ⟨hcz24_0, hcz24_1, hcz24_2, hfz24_0, hfz24_1, hfz24_2⟩ := blk3 BK326.out
          have p328 : 0 ≤ (x5_2 : Int) := of_decide_eq_true (by assumption)
          have q328 : x5_2 < (l1_1.length : Int) := of_decide_eq_true (by assumption)
          obtain ⟨ad328, e328, hx328_0, hx328_1, hx328_2, hx328_3, hx328_4⟩ := at_T40 HR1_1.out x5_2 p328 q328
          cases e328
          replace hx328_0 := (HB.out.cell (World.block_lt_of_cell? w _ hx328_0)).trans hx328_0
          replace hx328_1 := (HB.out.cell (World.block_lt_of_cell? w _ hx328_1)).trans hx328_1
          replace hx328_2 := (HB.out.cell (World.block_lt_of_cell? w _ hx328_2)).trans hx328_2
          replace hx328_3 := (HB.out.cell (World.block_lt_of_cell? w _ hx328_3)).trans hx328_3
          replace hx328_4 := (HB.out.cell (World.block_lt_of_cell? w _ hx328_4)).trans hx328_4
          replace p328 := eq_true p328
          replace q328 := eq_true q328
          go_wp2
          repeat (go_quiet (fail); try go_wp2)
          go_ret
          exact ⟨by first | rfl | (simp [*, errW_none, errW_some] <;> rfl), by exact bok HB.out⟩
         ·
          rw [if_neg c21] at H
          have c21b0 : (!(((rd_T40 l0_1 x5_2).f0) == ((rd_T40 l1_1 x5_2).f0)) || (!(((rd_T40 l0_1 x5_2).f1) == ((rd_T40 l1_1 x5_2).f1)) || (!(((rd_T40 l0_1 x5_2).f2) == ((rd_T40 l1_1 x5_2).f2)) || (!(((rd_T40 l0_1 x5_2).f3) == ((rd_T40 l1_1 x5_2).f3)) || (!((((rd_T40 l0_1 x5_2).f4).toList) == (((rd_T40 l1_1 x5_2).f4).toList))))))) = false := by simpa using c21
          clear c21
          have H' := mk0 H
          clear H
          have hnb25 := NB325_326.out
          have hnc25 := NB326_325.out
          obtain ⟨hcz26_0, hcz26_1, hcz26_2, hfz26_0, hfz26_1, hfz26_2⟩ := blk3 BK325.out
          have p327 : 0 ≤ (x5_2 : Int) := of_decide_eq_true (by assumption)
          have q327 : x5_2 < (l0_1.length : Int) := of_decide_eq_true (by assumption)
          obtain ⟨ad327, e327, hx327_0, hx327_1, hx327_2, hx327_3, hx327_4⟩ := at_T40 HR0_1.out x5_2 p327 q327
          cases e327
          replace hx327_0 := (HB.out.cell (World.block_lt_of_cell? w _ hx327_0)).trans hx327_0
          replace hx327_1 := (HB.out.cell (World.block_lt_of_cell? w _ hx327_1)).trans hx327_1
          replace hx327_2 := (HB.out.cell (World.block_lt_of_cell? w _ hx327_2)).trans hx327_2
          replace hx327_3 := (HB.out.cell (World.block_lt_of_cell? w _ hx327_3)).trans hx327_3
          replace hx327_4 := (HB.out.cell (World.block_lt_of_cell? w _ hx327_4)).trans hx327_4
          replace p327 := eq_true p327
          replace q327 := eq_true q327
          obtain ⟨hcz27_0, hcz27_1, hcz27_2, hfz27_0, hfz27_1, hfz27_2⟩ := blk3 BK326.out
          have p328 : 0 ≤ (x5_2 : Int) := of_decide_eq_true (by assumption)
          have q328 : x5_2 < (l1_1.length : Int) := of_decide_eq_true (by assumption)
          obtain ⟨ad328, e328, hx328_0, hx328_1, hx328_2, hx328_3, hx328_4⟩ := at_T40 HR1_1.out x5_2 p328 q328
          cases e328
          replace hx328_0 := (HB.out.cell (World.block_lt_of_cell? w _ hx328_0)).trans hx328_0
          replace hx328_1 := (HB.out.cell (World.block_lt_of_cell? w _ hx328_1)).trans hx328_1
          replace hx328_2 := (HB.out.cell (World.block_lt_of_cell? w _ hx328_2)).trans hx328_2
          replace hx328_3 := (HB.out.cell (World.block_lt_of_cell? w _ hx328_3)).trans hx328_3
          replace hx328_4 := (HB.out.cell (World.block_lt_of_cell? w _ hx328_4)).trans hx328_4
          replace p328 := eq_true p328
          replace q328 := eq_true q328
          go_wp2
          repeat (go_quiet (fail); try go_wp2)
          go_roundg k2
          case measure => have := HJ2.out; have := HK2.out; omega
          case rel => exact ⟨(wrap64 (x5_2 + 1)), (by first | rfl | (simp; done) | (simp [*]; done)), H', ⟨by have := HJ2.out; have := HK2.out; omega⟩, ⟨by exact obk BK325.out⟩, ⟨by exact obk BK326.out⟩, ⟨by exact bok HB.out⟩⟩
        ·
         rw [if_neg c20] at H
         exact absurd H (by simp)
       ·
        rw [if_neg c19] at H
        exact absurd H (by simp)
      ·
       rw [if_neg c18] at H
       have c18b0 : decide (x5_2 < (l0_1.length : Int)) = false := decide_eq_false c18
       clear c18
       have H' := mk0 H
       clear H
       have hnb28 := NB325_326.out
       have hnc28 := NB326_325.out
       obtain ⟨hcz29_0, hcz29_1, hcz29_2, hfz29_0, hfz29_1, hfz29_2⟩ := blk3 BK325.out
       go_wp2
       repeat (go_quiet (fail); try go_wp2)
       go_loopg [6] k2 (fun kq v6 w' => ∃ (x6_3 : Int), v6 = .int .i64 x6_3 ∧ Aside0 (remontoirref17_Same.l1 kq x6_3 a0_0 l0_1 l0_2 a1_0 l1_1 l1_2 = some r) ∧ Aside0 (kq ≤ k2) ∧ Aside0 (w'.heap[gb325]? = some (.cells #[.string a0_0, (.slice A0_1 l0_1.length c0_1), (.slice A0_2 l0_2.length c0_2)] 25 (0, 0))) ∧ Aside0 (w'.heap[gb326]? = some (.cells #[.string a1_0, (.slice A1_1 l1_1.length c1_1), (.slice A1_2 l1_2.length c1_2)] 25 (0, 0))) ∧ Aside0 (Below w.heap.size w w'))
       case atStart => exact ⟨(0), (by first | rfl | (simp; done) | (simp [*]; done)), H', ⟨Nat.le_refl _⟩, ⟨by exact obk BK325.out⟩, ⟨by exact obk BK326.out⟩, ⟨by exact bok HB.out⟩⟩
       case round =>
        clear H'
        try clear c1
        try clear c2
        try clear p2
        try clear p3
        try clear q3
        try clear hx3
        try clear c6
        try clear c6b0
        try clear c6b1
        try clear p6
        try clear c7
        try clear c7b0
        try clear c7b1
        try clear c7b2
        try clear c8
        try clear c11
        try clear c14
        try clear c17
        try clear c18
        try clear c18b0
        try clear c19
        try clear c19b0
        try clear c20
        try clear c20b0
        try clear c21
        try clear c21b0
        try clear c22
        try clear c25
        try clear c28
        try clear hx327_0
        try clear hx327_1
        try clear hx327_2
        try clear hx327_3
        try clear hx327_4
        try clear hx328_0
        try clear hx328_1
        try clear hx328_2
        try clear hx328_3
        try clear hx328_4
        try clear p2
        try clear p327
        try clear p328
        try clear q327
        try clear q328
        obtain ⟨x6_3, rfl, HA, HK3, BK325, BK326, HB⟩ := hrel
        cases gk with
        | zero => exact absurd HA.out (by simp [remontoirref17_Same.l1])
        | succ k3 =>
         have H := HA.out
         clear HA
         simp only [remontoirref17_Same.l1] at H
         by_cases c30 : x6_3 < (l0_2.length : Int)
         ·
          rw [if_pos c30] at H
          have c30b0 : decide (x6_3 < (l0_2.length : Int)) = true := decide_eq_true c30
          clear c30
          by_cases c31 : 0 ≤ x6_3
          ·
           rw [if_pos c31] at H
           have c31b0 : decide (0 ≤ x6_3) = true := decide_eq_true c31
           clear c31
           by_cases c32 : x6_3 < (l1_2.length : Int)
           ·
            rw [if_pos c32] at H
            have c32b0 : decide (x6_3 < (l1_2.length : Int)) = true := decide_eq_true c32
            clear c32
            by_cases c33 : (!(((rd_T42 l0_2 x6_3).f0) == ((rd_T42 l1_2 x6_3).f0)) || (!(((rd_T42 l0_2 x6_3).f1) == ((rd_T42 l1_2 x6_3).f1)) || (!(((rd_T42 l0_2 x6_3).f2) == ((rd_T42 l1_2 x6_3).f2)) || (!(((rd_T42 l0_2 x6_3).f3) == ((rd_T42 l1_2 x6_3).f3)) || (!((((rd_T42 l0_2 x6_3).f4).toList) == (((rd_T42 l1_2 x6_3).f4).toList))))))) = true
            ·
             rw [if_pos c33] at H
             have c33b0 : (!(((rd_T42 l0_2 x6_3).f0) == ((rd_T42 l1_2 x6_3).f0)) || (!(((rd_T42 l0_2 x6_3).f1) == ((rd_T42 l1_2 x6_3).f1)) || (!(((rd_T42 l0_2 x6_3).f2) == ((rd_T42 l1_2 x6_3).f2)) || (!(((rd_T42 l0_2 x6_3).f3) == ((rd_T42 l1_2 x6_3).f3)) || (!((((rd_T42 l0_2 x6_3).f4).toList) == (((rd_T42 l1_2 x6_3).f4).toList))))))) = true := c33
             clear c33
             obtain rfl := Option.some.inj H
             have hnb34 := NB325_326.out
             have hnc34 := NB326_325.out
             obtain ⟨hcz35_0, hcz35_1, hcz35_2, hfz35_0, hfz35_1, hfz35_2⟩ := blk3 BK325.out
             have p329 : 0 ≤ (x6_3 : Int) := of_decide_eq_true (by assumption)
             have q329 : x6_3 < (l0_2.length : Int) := of_decide_eq_true (by assumption)
             obtain ⟨ad329, e329, hx329_0, hx329_1, hx329_2, hx329_3, hx329_4⟩ := at_T42 HR0_2.out x6_3 p329 q329
             cases e329
             replace hx329_0 := (HB.out.cell (World.block_lt_of_cell? w _ hx329_0)).trans hx329_0
             replace hx329_1 := (HB.out.cell (World.block_lt_of_cell? w _ hx329_1)).trans hx329_1
             replace hx329_2 := (HB.out.cell (World.block_lt_of_cell? w _ hx329_2)).trans hx329_2
             replace hx329_3 := (HB.out.cell (World.block_lt_of_cell? w _ hx329_3)).trans hx329_3
             replace hx329_4 := (HB.out.cell (World.block_lt_of_cell? w _ hx329_4)).trans hx329_4
             replace p329 := eq_true p329
             replace q329 := eq_true q329
             obtain ⟨hcz36_0, hcz36_1, hcz36_2, hfz36_0, hfz36_1, hfz36_2⟩ := blk3 BK326.out
             have p330 : 0 ≤ (x6_3 : Int) := of_decide_eq_true (by assumption)
             have q330 : x6_3 < (l1_2.length : Int) := of_decide_eq_true (by assumption)
             obtain ⟨ad330, e330, hx330_0, hx330_1, hx330_2, hx330_3, hx330_4⟩ := at_T42 HR1_2.out x6_3 p330 q330
             cases e330
             replace hx330_0 := (HB.out.cell (World.block_lt_of_cell? w _ hx330_0)).trans hx330_0
             replace hx330_1 := (HB.out.cell (World.block_lt_of_cell? w _ hx330_1)).trans hx330_1
             replace hx330_2 := (HB.out.cell (World.block_lt_of_cell? w _ hx330_2)).trans hx330_2
             replace hx330_3 := (HB.out.cell (World.block_lt_of_cell? w _ hx330_3)).trans hx330_3
             replace hx330_4 := (HB.out.cell (World.block_lt_of_cell? w _ hx330_4)).trans hx330_4
             replace p330 := eq_true p330
             replace q330 := eq_true q330
             go_wp2
             repeat (go_quiet (fail); try go_wp2)
             go_ret
             exact ⟨by first | rfl | (simp [*, errW_none, errW_some] <;> rfl), by exact bok HB.out⟩
            ·
             rw [if_neg c33] at H
             have c33b0 : (!(((rd_T42 l0_2 x6_3).f0) == ((rd_T42 l1_2 x6_3).f0)) || (!(((rd_T42 l0_2 x6_3).f1) == ((rd_T42 l1_2 x6_3).f1)) || (!(((rd_T42 l0_2 x6_3).f2) == ((rd_T42 l1_2 x6_3).f2)) || (!(((rd_T42 l0_2 x6_3).f3) == ((rd_T42 l1_2 x6_3).f3)) || (!((((rd_T42 l0_2 x6_3).f4).toList) == (((rd_T42 l1_2 x6_3).f4).toList))))))) = false := by simpa using c33
             clear c33
             have H' := mk0 H
             clear H
             have hnb37 := NB325_326.out
             have hnc37 := NB326_325.out
             obtain ⟨hcz38_0, hcz38_1, hcz38_2, hfz38_0, hfz38_1, hfz38_2⟩ := blk3 BK325.out
             have p329 : 0 ≤ (x6_3 : Int) := of_decide_eq_true (by assumption)
             have q329 : x6_3 < (l0_2.length : Int) := of_decide_eq_true (by assumption)
             obtain ⟨ad329, e329, hx329_0, hx329_1, hx329_2, hx329_3, hx329_4⟩ := at_T42 HR0_2.out x6_3 p329 q329
             cases e329
             replace hx329_0 := (HB.out.cell (World.block_lt_of_cell? w _ hx329_0)).trans hx329_0
             replace hx329_1 := (HB.out.cell (World.block_lt_of_cell? w _ hx329_1)).trans hx329_1
             replace hx329_2 := (HB.out.cell (World.block_lt_of_cell? w _ hx329_2)).trans hx329_2
             replace hx329_3 := (HB.out.cell (World.block_lt_of_cell? w _ hx329_3)).trans hx329_3
             replace hx329_4 := (HB.out.cell (World.block_lt_of_cell? w _ hx329_4)).trans hx329_4
             replace p329 := eq_true p329
             replace q329 := eq_true q329
             obtain ⟨hcz39_0, hcz39_1, hcz39_2, hfz39_0, hfz39_1, hfz39_2⟩ := blk3 BK326.out
             have p330 : 0 ≤ (x6_3 : Int) := of_decide_eq_true (by assumption)
             have q330 : x6_3 < (l1_2.length : Int) := of_decide_eq_true (by assumption)
             obtain ⟨ad330, e330, hx330_0, hx330_1, hx330_2, hx330_3, hx330_4⟩ := at_T42 HR1_2.out x6_3 p330 q330
             cases e330
             replace hx330_0 := (HB.out.cell (World.block_lt_of_cell? w _ hx330_0)).trans hx330_0
             replace hx330_1 := (HB.out.cell (World.block_lt_of_cell? w _ hx330_1)).trans hx330_1
             replace hx330_2 := (HB.out.cell (World.block_lt_of_cell? w _ hx330_2)).trans hx330_2
             replace hx330_3 := (HB.out.cell (World.block_lt_of_cell? w _ hx330_3)).trans hx330_3
             replace hx330_4 := (HB.out.cell (World.block_lt_of_cell? w _ hx330_4)).trans hx330_4
             replace p330 := eq_true p330
             replace q330 := eq_true q330
             go_wp2
             repeat (go_quiet (fail); try go_wp2)
             go_roundg k3
             case measure => have := HJ2.out; have := HK2.out; have := HK3.out; omega
             case rel => exact ⟨(wrap64 (x6_3 + 1)), (by first | rfl | (simp; done) | (simp [*]; done)), H', ⟨by have := HJ2.out; have := HK2.out; have := HK3.out; omega⟩, ⟨by exact obk BK325.out⟩, ⟨by exact obk BK326.out⟩, ⟨by exact bok HB.out⟩⟩
           ·
            rw [if_neg c32] at H
            exact absurd H (by simp)
          ·
           rw [if_neg c31] at H
           exact absurd H (by simp)
         ·
          rw [if_neg c30] at H
          have c30b0 : decide (x6_3 < (l0_2.length : Int)) = false := decide_eq_false c30
          clear c30
          obtain rfl := Option.some.inj H
          have hnb40 := NB325_326.out
          have hnc40 := NB326_325.out
          obtain ⟨hcz41_0, hcz41_1, hcz41_2, hfz41_0, hfz41_1, hfz41_2⟩ := blk3 BK325.out
          go_wp2
          repeat (go_quiet (fail); try go_wp2)
          go_ret
          exact ⟨by first | rfl | (simp [*, errW_none, errW_some] <;> rfl), by exact bok HB.out⟩

/-! ### remontoirref17_Print: function 11 -/
def remontoirref17_Print.f (k : Nat) (a0_0 : ByteArray) (l0_1 : List (S40)) (l0_2 : List (S42)) : Option (ByteArray) := (remontoirref17_Text.f k a0_0 l0_1 l0_2).bind fun t332 => ((remontoirref17_Parse.f k t332).bind fun bt333 => (if bt333.2.2.2.2 = 0 then ((remontoirref17_Same.f k bt333.1 bt333.2.1 bt333.2.2.1 a0_0 l0_1 l0_2).bind fun t343 => (if t343 = true then (some t332) else (some (⟨#[]⟩ : ByteArray)))) else (some (⟨#[]⟩ : ByteArray))))
set_option maxHeartbeats 8000000 in
set_option maxRecDepth 100000 in
theorem remontoirref17_Print.calls (k : Nat) (a0_0 : ByteArray) (A0_1 : Option Addr) (c0_1 : Nat) (l0_1 : List (S40)) (A0_2 : Option Addr) (c0_2 : Nat) (l0_2 : List (S42)) (r : ByteArray) (w : World) (hr0_1 : Kd.C k40 w A0_1 l0_1.length l0_1) (hc0_1 : l0_1.length ≤ c0_1) (hr0_2 : Kd.C k42 w A0_2 l0_2.length l0_2) (hc0_2 : l0_2.length ≤ c0_2) (h : remontoirref17_Print.f k a0_0 l0_1 l0_2 = some r) :
  Calls Tryd.prog 11 #[.agg #[.string a0_0, .slice A0_1 l0_1.length c0_1, .slice A0_2 l0_2.length c0_2]] w fun e w' => e = .returned (.string r) ∧ Below w.heap.size w w' := by
 have hu25 := Tryd.underlying25
 have HR0_1 := mk0 hr0_1
 have HC0_1 := mk0 hc0_1
 clear hr0_1 hc0_1
 have HR0_2 := mk0 hr0_2
 have HC0_2 := mk0 hc0_2
 clear hr0_2 hc0_2
 have HB := mk0 (Below.refl w.heap.size w)
 have H : ((remontoirref17_Text.f k a0_0 l0_1 l0_2).bind fun t332 => ((remontoirref17_Parse.f k t332).bind fun bt333 => (if bt333.2.2.2.2 = 0 then ((remontoirref17_Same.f k bt333.1 bt333.2.1 bt333.2.2.1 a0_0 l0_1 l0_2).bind fun t343 => (if t343 = true then (some t332) else (some (⟨#[]⟩ : ByteArray)))) else (some (⟨#[]⟩ : ByteArray))))) = some r := h
 clear h
 replace H := Option.bind_eq_some_iff.mp H
 obtain ⟨t332, A20, H⟩ := H
 replace H : ((remontoirref17_Parse.f k t332).bind fun bt333 => (if bt333.2.2.2.2 = 0 then ((remontoirref17_Same.f k bt333.1 bt333.2.1 bt333.2.2.1 a0_0 l0_1 l0_2).bind fun t343 => (if t343 = true then (some t332) else (some (⟨#[]⟩ : ByteArray)))) else (some (⟨#[]⟩ : ByteArray)))) = some r := H
 have A2 := mk0 A20
 clear A20
 replace H := Option.bind_eq_some_iff.mp H
 obtain ⟨⟨t333, t334, t337, t340, t341⟩, A30, H⟩ := H
 replace H : (if t341 = 0 then ((remontoirref17_Same.f k t333 t334 t337 a0_0 l0_1 l0_2).bind fun t343 => (if t343 = true then (some t332) else (some (⟨#[]⟩ : ByteArray)))) else (some (⟨#[]⟩ : ByteArray))) = some r := H
 have A3 := mk0 A30
 clear A30
 by_cases c4 : t341 = 0
 ·
  rw [if_pos c4] at H
  have c4b0 : (t341 == 0) = true := beq_iff_eq.mpr c4
  have c4b1 : (t341 != 0) = false := bne_eq_false_iff_eq.mpr c4
  clear c4
  replace H := Option.bind_eq_some_iff.mp H
  obtain ⟨t343, A50, H⟩ := H
  replace H : (if t343 = true then (some t332) else (some (⟨#[]⟩ : ByteArray))) = some r := H
  have A5 := mk0 A50
  clear A50
  by_cases c6 : t343 = true
  ·
   subst c6
   have H1 : (some t332) = some r := by rw [if_pos rfl] at H; exact H
   clear H
   have H := H1
   clear H1
   obtain rfl := Option.some.inj H
   go_enter Tryd.func11, Tryd.ntmps11
   go_wp2_with (first | ((with_reducible refine gate_dst (N := 1) rfl ?_); refine box_event ?hg (N := 1) ?hd (cs := #[.string a0_0, .slice A0_1 l0_1.length c0_1, .slice A0_2 l0_2.length c0_2]) (t := 25) ?hr ?_; (case hd => rfl); (case hg => rfl); (case hr => first | (go_simp; done) | (go_simp; rfl)); intro gb331 hg w7 hbox hb; have n0_ := mk0 (bst HB.out hb); have n1_ := mk0 (hbox); have n2_ := mk0 (gle hg HB.out); have n3_ := mk0 (gle hg HB.out); clear HB; have HB := n0_; have BK331 := n1_; have GW331 := n2_; have GE331 := n3_; clear n0_ n1_ n2_ n3_; clear hb hbox hg; obtain ⟨hcz8_0, hcz8_1, hcz8_2, hfz8_0, hfz8_1, hfz8_2⟩ := blk3 BK331.out) | ((with_reducible refine gate_callee (f := 18) rfl ?_); refine goesL_ (some 8) rfl rfl Tryd.func18 (by kernel_rfl) rfl #[.agg #[.string a0_0, .slice A0_1 l0_1.length c0_1, .slice A0_2 l0_2.length c0_2]] rfl (by (try simp only [List.map_toArray, List.map_cons, List.map_nil]); first | done | rfl | (simp only [List.length_drop, List.length_take]; rfl)) ?_; (with_reducible refine (remontoirref17_Text.calls k a0_0 _ _ l0_1 _ _ l0_2 t332 _ ?side1 ?side2 ?side3 ?side4 A2.out).mono ?_); (case side1 => repeat (first | exact (Kd.C_below HR0_1.out HB.out) | (with_reducible refine Kd.C_alloc ?_ _) | (with_reducible refine Kd.C_drewN ?_ _) | (with_reducible refine Kd.C_drew ?_))); (case side2 => exact HC0_1.out); (case side3 => repeat (first | exact (Kd.C_below HR0_2.out HB.out) | (with_reducible refine Kd.C_alloc ?_ _) | (with_reducible refine Kd.C_drewN ?_ _) | (with_reducible refine Kd.C_drew ?_))); (case side4 => exact HC0_2.out); rintro e w9 ⟨rfl, hb⟩; refine ⟨_, rfl, ?_⟩; have n0_ := mk0 (blk_below (obk BK331.out) hb); have n1_ := mk0 (bst HB.out hb); clear BK331; clear HB; have BK331 := n0_; have HB := n1_; clear n0_ n1_; (try clear hb)) | ((with_reducible refine gate_callee (f := 19) rfl ?_); refine goesL_ (some 11) rfl rfl Tryd.func19 (by kernel_rfl) rfl #[.string t332] rfl (by (try simp only [List.map_toArray, List.map_cons, List.map_nil]); first | done | rfl | (simp only [List.length_drop, List.length_take]; rfl)) ?_; (with_reducible refine (remontoirref17_Parse.calls k t332 t333 t334 t337 t340 t341 _ A3.out).mono ?_); rintro e w10 ⟨v335, v338, rfl, ho0, ho1, hb⟩; refine ⟨_, rfl, ?_⟩; have n0_ := mk0 (Kd.R_lower ho0 (below_size (by exact bok HB.out))); have n1_ := mk0 (Kd.R_lower ho1 (below_size (by exact bok HB.out))); have n2_ := mk0 (blk_below (obk BK331.out) hb); have n3_ := mk0 (bst HB.out hb); clear BK331; clear HB; have HO336 := n0_; have HO339 := n1_; have BK331 := n2_; have HB := n3_; clear n0_ n1_ n2_ n3_; (try clear hb); (try clear ho0); (try clear ho1)) | ((with_reducible refine gate_dst (N := 4) rfl ?_); refine box_event ?hg (N := 4) ?hd (cs := #[.string (⟨#[]⟩ : ByteArray), .slice none 0 0, .slice none 0 0]) (t := 25) ?hr ?_; (case hd => rfl); (case hg => rfl); (case hr => first | (go_simp; done) | (go_simp; rfl)); intro gb342 hg w11 hbox hb; have n0_ := mk0 (Kd.R_below (by exact rok HO336.out) hb); have n1_ := mk0 (Kd.R_below (by exact rok HO339.out) hb); have n2_ := mk0 (blk_below (obk BK331.out) hb); have n3_ := mk0 (bst HB.out hb); have n4_ := mk0 (hbox); have n5_ := mk0 (gle hg HB.out); have n6_ := mk0 (gle hg HB.out); have n7_ := mk0 (nlt hg BK331.out); have n8_ := mk0 (ngt hg BK331.out); clear HO336; clear HO339; clear BK331; clear HB; have HO336 := n0_; have HO339 := n1_; have BK331 := n2_; have HB := n3_; have BK342 := n4_; have GW342 := n5_; have GE342 := n6_; have NB331_342 := n7_; have NB342_331 := n8_; clear n0_ n1_ n2_ n3_ n4_ n5_ n6_ n7_ n8_; clear hb hbox hg; have hnb12 := NB342_331.out; have hnc12 := NB331_342.out; obtain ⟨hcz13_0, hcz13_1, hcz13_2, hfz13_0, hfz13_1, hfz13_2⟩ := blk3 BK342.out; obtain ⟨Ao14, co14, eo14⟩ := Kd.R_slice HO336.out; subst eo14; obtain ⟨Ao15, co15, eo15⟩ := Kd.R_slice HO339.out; subst eo15; obtain ⟨hcz16_0, hcz16_1, hcz16_2, hfz16_0, hfz16_1, hfz16_2⟩ := blk3 BK331.out) | (go_at_call 20; (with_reducible refine (remontoirref17_Same.calls k t333 _ _ t334 _ _ t337 a0_0 _ _ l0_1 _ _ l0_2 true _ ?side1 ?side2 ?side3 ?side4 ?side5 ?side6 ?side7 ?side8 A5.out).mono ?_); (case side1 => refine (Kd.R_reads' (e := 40) (base := w.heap.size) (ok := fun k_ => True) (n := t334.length) (c := co14) ?_).2.2; exact (by exact rok (Kd.R_mono (rfar 2 (rfar 1 (rfar 0 (Kd.R_types HO336.out BK342.out (by decide)) (.string t333)) (.slice Ao14 t334.length co14)) (.slice Ao15 t337.length co15)) (fun _ h_ => h_.1)))); (case side2 => exact (Kd.R_reads' HO336.out).2.1); (case side3 => refine (Kd.R_reads' (e := 42) (base := w.heap.size) (ok := fun k_ => True) (n := t337.length) (c := co15) ?_).2.2; exact (by exact rok (Kd.R_mono (rfar 2 (rfar 1 (rfar 0 (Kd.R_types HO339.out BK342.out (by decide)) (.string t333)) (.slice Ao14 t334.length co14)) (.slice Ao15 t337.length co15)) (fun _ h_ => h_.1)))); (case side4 => exact (Kd.R_reads' HO339.out).2.1); (case side5 => exact Kd.C_below HR0_1.out (by exact bok HB.out)); (case side6 => exact HC0_1.out); (case side7 => exact Kd.C_below HR0_2.out (by exact bok HB.out)); (case side8 => exact HC0_2.out); rintro e w17 ⟨rfl, hb⟩; have n0_ := mk0 (Kd.R_below (by exact rok (Kd.R_mono (rfar 2 (rfar 1 (rfar 0 (Kd.R_types HO336.out BK342.out (by decide)) (.string t333)) (.slice Ao14 t334.length co14)) (.slice Ao15 t337.length co15)) (fun _ h_ => h_.1))) hb); have n1_ := mk0 (Kd.R_below (by exact rok (Kd.R_mono (rfar 2 (rfar 1 (rfar 0 (Kd.R_types HO339.out BK342.out (by decide)) (.string t333)) (.slice Ao14 t334.length co14)) (.slice Ao15 t337.length co15)) (fun _ h_ => h_.1))) hb); have n2_ := mk0 (blk_below (obf BK331.out) hb); have n3_ := mk0 (blk_below (g := gb342) (o := .cells #[.string t333, .slice Ao14 t334.length co14, .slice Ao15 t337.length co15] 25 (0, 0)) (by exact obk (blk_put (obk (blk_put (obk (blk_put (obk BK342.out) 0 _ rfl)) 1 _ rfl)) 2 _ rfl)) hb); have n4_ := mk0 (bst HB.out hb); clear HO336; clear HO339; clear BK331; clear BK342; clear HB; have HO336 := n0_; have HO339 := n1_; have BK331 := n2_; have BK342 := n3_; have HB := n4_; clear n0_ n1_ n2_ n3_ n4_; (try clear hb)))
   go_ret
   exact ⟨by first | rfl | (simp [*, errW_none, errW_some] <;> rfl), by exact bok HB.out⟩
  ·
   replace c6 := Bool.eq_false_iff.mpr c6
   subst c6
   have H1 : (some (⟨#[]⟩ : ByteArray)) = some r := by rw [if_neg (show ¬ (false = true) by decide)] at H; exact H
   clear H
   have H := H1
   clear H1
   obtain rfl := Option.some.inj H
   go_enter Tryd.func11, Tryd.ntmps11
   go_wp2_with (first | ((with_reducible refine gate_dst (N := 1) rfl ?_); refine box_event ?hg (N := 1) ?hd (cs := #[.string a0_0, .slice A0_1 l0_1.length c0_1, .slice A0_2 l0_2.length c0_2]) (t := 25) ?hr ?_; (case hd => rfl); (case hg => rfl); (case hr => first | (go_simp; done) | (go_simp; rfl)); intro gb331 hg w18 hbox hb; have n0_ := mk0 (bst HB.out hb); have n1_ := mk0 (hbox); have n2_ := mk0 (gle hg HB.out); have n3_ := mk0 (gle hg HB.out); clear HB; have HB := n0_; have BK331 := n1_; have GW331 := n2_; have GE331 := n3_; clear n0_ n1_ n2_ n3_; clear hb hbox hg; obtain ⟨hcz19_0, hcz19_1, hcz19_2, hfz19_0, hfz19_1, hfz19_2⟩ := blk3 BK331.out) | ((with_reducible refine gate_callee (f := 18) rfl ?_); refine goesL_ (some 8) rfl rfl Tryd.func18 (by kernel_rfl) rfl #[.agg #[.string a0_0, .slice A0_1 l0_1.length c0_1, .slice A0_2 l0_2.length c0_2]] rfl (by (try simp only [List.map_toArray, List.map_cons, List.map_nil]); first | done | rfl | (simp only [List.length_drop, List.length_take]; rfl)) ?_; (with_reducible refine (remontoirref17_Text.calls k a0_0 _ _ l0_1 _ _ l0_2 t332 _ ?side1 ?side2 ?side3 ?side4 A2.out).mono ?_); (case side1 => repeat (first | exact (Kd.C_below HR0_1.out HB.out) | (with_reducible refine Kd.C_alloc ?_ _) | (with_reducible refine Kd.C_drewN ?_ _) | (with_reducible refine Kd.C_drew ?_))); (case side2 => exact HC0_1.out); (case side3 => repeat (first | exact (Kd.C_below HR0_2.out HB.out) | (with_reducible refine Kd.C_alloc ?_ _) | (with_reducible refine Kd.C_drewN ?_ _) | (with_reducible refine Kd.C_drew ?_))); (case side4 => exact HC0_2.out); rintro e w20 ⟨rfl, hb⟩; refine ⟨_, rfl, ?_⟩; have n0_ := mk0 (blk_below (obk BK331.out) hb); have n1_ := mk0 (bst HB.out hb); clear BK331; clear HB; have BK331 := n0_; have HB := n1_; clear n0_ n1_; (try clear hb)) | ((with_reducible refine gate_callee (f := 19) rfl ?_); refine goesL_ (some 11) rfl rfl Tryd.func19 (by kernel_rfl) rfl #[.string t332] rfl (by (try simp only [List.map_toArray, List.map_cons, List.map_nil]); first | done | rfl | (simp only [List.length_drop, List.length_take]; rfl)) ?_; (with_reducible refine (remontoirref17_Parse.calls k t332 t333 t334 t337 t340 t341 _ A3.out).mono ?_); rintro e w21 ⟨v335, v338, rfl, ho0, ho1, hb⟩; refine ⟨_, rfl, ?_⟩; have n0_ := mk0 (Kd.R_lower ho0 (below_size (by exact bok HB.out))); have n1_ := mk0 (Kd.R_lower ho1 (below_size (by exact bok HB.out))); have n2_ := mk0 (blk_below (obk BK331.out) hb); have n3_ := mk0 (bst HB.out hb); clear BK331; clear HB; have HO336 := n0_; have HO339 := n1_; have BK331 := n2_; have HB := n3_; clear n0_ n1_ n2_ n3_; (try clear hb); (try clear ho0); (try clear ho1)) | ((with_reducible refine gate_dst (N := 4) rfl ?_); refine box_event ?hg (N := 4) ?hd (cs := #[.string (⟨#[]⟩ : ByteArray), .slice none 0 0, .slice none 0 0]) (t := 25) ?hr ?_; (case hd => rfl); (case hg => rfl); (case hr => first | (go_simp; done) | (go_simp; rfl)); intro gb342 hg w22 hbox hb; have n0_ := mk0 (Kd.R_below (by exact rok HO336.out) hb); have n1_ := mk0 (Kd.R_below (by exact rok HO339.out) hb); have n2_ := mk0 (blk_below (obk BK331.out) hb); have n3_ := mk0 (bst HB.out hb); have n4_ := mk0 (hbox); have n5_ := mk0 (gle hg HB.out); have n6_ := mk0 (gle hg HB.out); have n7_ := mk0 (nlt hg BK331.out); have n8_ := mk0 (ngt hg BK331.out); clear HO336; clear HO339; clear BK331; clear HB; have HO336 := n0_; have HO339 := n1_; have BK331 := n2_; have HB := n3_; have BK342 := n4_; have GW342 := n5_; have GE342 := n6_; have NB331_342 := n7_; have NB342_331 := n8_; clear n0_ n1_ n2_ n3_ n4_ n5_ n6_ n7_ n8_; clear hb hbox hg; have hnb23 := NB342_331.out; have hnc23 := NB331_342.out; obtain ⟨hcz24_0, hcz24_1, hcz24_2, hfz24_0, hfz24_1, hfz24_2⟩ := blk3 BK342.out; obtain ⟨Ao25, co25, eo25⟩ := Kd.R_slice HO336.out; subst eo25; obtain ⟨Ao26, co26, eo26⟩ := Kd.R_slice HO339.out; subst eo26; obtain ⟨hcz27_0, hcz27_1, hcz27_2, hfz27_0, hfz27_1, hfz27_2⟩ := blk3 BK331.out) | (go_at_call 20; (with_reducible refine (remontoirref17_Same.calls k t333 _ _ t334 _ _ t337 a0_0 _ _ l0_1 _ _ l0_2 false _ ?side1 ?side2 ?side3 ?side4 ?side5 ?side6 ?side7 ?side8 A5.out).mono ?_); (case side1 => refine (Kd.R_reads' (e := 40) (base := w.heap.size) (ok := fun k_ => True) (n := t334.length) (c := co25) ?_).2.2; exact (by exact rok (Kd.R_mono (rfar 2 (rfar 1 (rfar 0 (Kd.R_types HO336.out BK342.out (by decide)) (.string t333)) (.slice Ao25 t334.length co25)) (.slice Ao26 t337.length co26)) (fun _ h_ => h_.1)))); (case side2 => exact (Kd.R_reads' HO336.out).2.1); (case side3 => refine (Kd.R_reads' (e := 42) (base := w.heap.size) (ok := fun k_ => True) (n := t337.length) (c := co26) ?_).2.2; exact (by exact rok (Kd.R_mono (rfar 2 (rfar 1 (rfar 0 (Kd.R_types HO339.out BK342.out (by decide)) (.string t333)) (.slice Ao25 t334.length co25)) (.slice Ao26 t337.length co26)) (fun _ h_ => h_.1)))); (case side4 => exact (Kd.R_reads' HO339.out).2.1); (case side5 => exact Kd.C_below HR0_1.out (by exact bok HB.out)); (case side6 => exact HC0_1.out); (case side7 => exact Kd.C_below HR0_2.out (by exact bok HB.out)); (case side8 => exact HC0_2.out); rintro e w28 ⟨rfl, hb⟩; have n0_ := mk0 (Kd.R_below (by exact rok (Kd.R_mono (rfar 2 (rfar 1 (rfar 0 (Kd.R_types HO336.out BK342.out (by decide)) (.string t333)) (.slice Ao25 t334.length co25)) (.slice Ao26 t337.length co26)) (fun _ h_ => h_.1))) hb); have n1_ := mk0 (Kd.R_below (by exact rok (Kd.R_mono (rfar 2 (rfar 1 (rfar 0 (Kd.R_types HO339.out BK342.out (by decide)) (.string t333)) (.slice Ao25 t334.length co25)) (.slice Ao26 t337.length co26)) (fun _ h_ => h_.1))) hb); have n2_ := mk0 (blk_below (obf BK331.out) hb); have n3_ := mk0 (blk_below (g := gb342) (o := .cells #[.string t333, .slice Ao25 t334.length co25, .slice Ao26 t337.length co26] 25 (0, 0)) (by exact obk (blk_put (obk (blk_put (obk (blk_put (obk BK342.out) 0 _ rfl)) 1 _ rfl)) 2 _ rfl)) hb); have n4_ := mk0 (bst HB.out hb); clear HO336; clear HO339; clear BK331; clear BK342; clear HB; have HO336 := n0_; have HO339 := n1_; have BK331 := n2_; have BK342 := n3_; have HB := n4_; clear n0_ n1_ n2_ n3_ n4_; (try clear hb)))
   go_ret
   exact ⟨by first | rfl | (simp [*, errW_none, errW_some] <;> rfl), by exact bok HB.out⟩
 ·
  rw [if_neg c4] at H
  have c4b0 : (t341 == 0) = false := beq_eq_false_iff_ne.mpr c4
  have c4b1 : (t341 != 0) = true := bne_iff_ne.mpr c4
  obtain rfl := Option.some.inj H
  go_enter Tryd.func11, Tryd.ntmps11
  go_wp2_with (first | ((with_reducible refine gate_dst (N := 1) rfl ?_); refine box_event ?hg (N := 1) ?hd (cs := #[.string a0_0, .slice A0_1 l0_1.length c0_1, .slice A0_2 l0_2.length c0_2]) (t := 25) ?hr ?_; (case hd => rfl); (case hg => rfl); (case hr => first | (go_simp; done) | (go_simp; rfl)); intro gb331 hg w29 hbox hb; have n0_ := mk0 (bst HB.out hb); have n1_ := mk0 (hbox); have n2_ := mk0 (gle hg HB.out); have n3_ := mk0 (gle hg HB.out); clear HB; have HB := n0_; have BK331 := n1_; have GW331 := n2_; have GE331 := n3_; clear n0_ n1_ n2_ n3_; clear hb hbox hg; obtain ⟨hcz30_0, hcz30_1, hcz30_2, hfz30_0, hfz30_1, hfz30_2⟩ := blk3 BK331.out) | ((with_reducible refine gate_callee (f := 18) rfl ?_); refine goesL_ (some 8) rfl rfl Tryd.func18 (by kernel_rfl) rfl #[.agg #[.string a0_0, .slice A0_1 l0_1.length c0_1, .slice A0_2 l0_2.length c0_2]] rfl (by (try simp only [List.map_toArray, List.map_cons, List.map_nil]); first | done | rfl | (simp only [List.length_drop, List.length_take]; rfl)) ?_; (with_reducible refine (remontoirref17_Text.calls k a0_0 _ _ l0_1 _ _ l0_2 t332 _ ?side1 ?side2 ?side3 ?side4 A2.out).mono ?_); (case side1 => repeat (first | exact (Kd.C_below HR0_1.out HB.out) | (with_reducible refine Kd.C_alloc ?_ _) | (with_reducible refine Kd.C_drewN ?_ _) | (with_reducible refine Kd.C_drew ?_))); (case side2 => exact HC0_1.out); (case side3 => repeat (first | exact (Kd.C_below HR0_2.out HB.out) | (with_reducible refine Kd.C_alloc ?_ _) | (with_reducible refine Kd.C_drewN ?_ _) | (with_reducible refine Kd.C_drew ?_))); (case side4 => exact HC0_2.out); rintro e w31 ⟨rfl, hb⟩; refine ⟨_, rfl, ?_⟩; have n0_ := mk0 (blk_below (obk BK331.out) hb); have n1_ := mk0 (bst HB.out hb); clear BK331; clear HB; have BK331 := n0_; have HB := n1_; clear n0_ n1_; (try clear hb)) | ((with_reducible refine gate_callee (f := 19) rfl ?_); refine goesL_ (some 11) rfl rfl Tryd.func19 (by kernel_rfl) rfl #[.string t332] rfl (by (try simp only [List.map_toArray, List.map_cons, List.map_nil]); first | done | rfl | (simp only [List.length_drop, List.length_take]; rfl)) ?_; (with_reducible refine (remontoirref17_Parse.calls k t332 t333 t334 t337 t340 t341 _ A3.out).mono ?_); rintro e w32 ⟨v335, v338, rfl, ho0, ho1, hb⟩; refine ⟨_, rfl, ?_⟩; have n0_ := mk0 (Kd.R_lower ho0 (below_size (by exact bok HB.out))); have n1_ := mk0 (Kd.R_lower ho1 (below_size (by exact bok HB.out))); have n2_ := mk0 (blk_below (obk BK331.out) hb); have n3_ := mk0 (bst HB.out hb); clear BK331; clear HB; have HO336 := n0_; have HO339 := n1_; have BK331 := n2_; have HB := n3_; clear n0_ n1_ n2_ n3_; (try clear hb); (try clear ho0); (try clear ho1)) | ((with_reducible refine gate_dst (N := 4) rfl ?_); refine box_event ?hg (N := 4) ?hd (cs := #[.string (⟨#[]⟩ : ByteArray), .slice none 0 0, .slice none 0 0]) (t := 25) ?hr ?_; (case hd => rfl); (case hg => rfl); (case hr => first | (go_simp; done) | (go_simp; rfl)); intro gb342 hg w33 hbox hb; have n0_ := mk0 (Kd.R_below (by exact rok HO336.out) hb); have n1_ := mk0 (Kd.R_below (by exact rok HO339.out) hb); have n2_ := mk0 (blk_below (obk BK331.out) hb); have n3_ := mk0 (bst HB.out hb); have n4_ := mk0 (hbox); have n5_ := mk0 (gle hg HB.out); have n6_ := mk0 (gle hg HB.out); have n7_ := mk0 (nlt hg BK331.out); have n8_ := mk0 (ngt hg BK331.out); clear HO336; clear HO339; clear BK331; clear HB; have HO336 := n0_; have HO339 := n1_; have BK331 := n2_; have HB := n3_; have BK342 := n4_; have GW342 := n5_; have GE342 := n6_; have NB331_342 := n7_; have NB342_331 := n8_; clear n0_ n1_ n2_ n3_ n4_ n5_ n6_ n7_ n8_; clear hb hbox hg; have hnb34 := NB342_331.out; have hnc34 := NB331_342.out; obtain ⟨hcz35_0, hcz35_1, hcz35_2, hfz35_0, hfz35_1, hfz35_2⟩ := blk3 BK342.out; obtain ⟨Ao36, co36, eo36⟩ := Kd.R_slice HO336.out; subst eo36; obtain ⟨Ao37, co37, eo37⟩ := Kd.R_slice HO339.out; subst eo37))
  go_ret
  exact ⟨by first | rfl | (simp [*, errW_none, errW_some] <;> rfl), by exact bok HB.out⟩

/-! ### remontoirlaw17_DefPrints: function 3 -/
def remontoirlaw17_DefPrints.f (k : Nat) (a0_0 : ByteArray) (l0_1 : List (S40)) (l0_2 : List (S42)) : Option (Bool) := (remontoirkeep_LightDef.f k a0_0 l0_1 l0_2).bind fun t345 => (if t345 = true then ((def_Print.f k a0_0 l0_1 l0_2).bind fun bt346 => ((remontoirref17_Print.f k a0_0 l0_1 l0_2).bind fun t348 => (if bt346.1.toList = t348.toList then (if (bt346.2 == (t348.toList != ([] : List UInt8))) = true then ((remontoirlaw17_wakes.f k).bind fun t349 => (some t349)) else (some false)) else (some false)))) else ((remontoirlaw17_wakes.f k).bind fun t350 => (some t350)))
set_option maxHeartbeats 8000000 in
set_option maxRecDepth 100000 in
theorem remontoirlaw17_DefPrints.calls (k : Nat) (a0_0 : ByteArray) (A0_1 : Option Addr) (c0_1 : Nat) (l0_1 : List (S40)) (A0_2 : Option Addr) (c0_2 : Nat) (l0_2 : List (S42)) (r : Bool) (w : World) (hTab : Tab w) (hr0_1 : Kd.C k40 w A0_1 l0_1.length l0_1) (hc0_1 : l0_1.length ≤ c0_1) (hr0_2 : Kd.C k42 w A0_2 l0_2.length l0_2) (hc0_2 : l0_2.length ≤ c0_2) (hr_ : r = true) (h : remontoirlaw17_DefPrints.f k a0_0 l0_1 l0_2 = some r) :
  Calls Tryd.prog 3 #[.agg #[.string a0_0, .slice A0_1 l0_1.length c0_1, .slice A0_2 l0_2.length c0_2]] w fun e w' => e = .returned (.bool r) ∧ Below w.heap.size w w' := by
 have hu25 := Tryd.underlying25
 have HR0_1 := mk0 hr0_1
 have HC0_1 := mk0 hc0_1
 clear hr0_1 hc0_1
 have HR0_2 := mk0 hr0_2
 have HC0_2 := mk0 hc0_2
 clear hr0_2 hc0_2
 have HB := mk0 (Below.refl w.heap.size w)
 have H : ((remontoirkeep_LightDef.f k a0_0 l0_1 l0_2).bind fun t345 => (if t345 = true then ((def_Print.f k a0_0 l0_1 l0_2).bind fun bt346 => ((remontoirref17_Print.f k a0_0 l0_1 l0_2).bind fun t348 => (if bt346.1.toList = t348.toList then (if (bt346.2 == (t348.toList != ([] : List UInt8))) = true then ((remontoirlaw17_wakes.f k).bind fun t349 => (some t349)) else (some false)) else (some false)))) else ((remontoirlaw17_wakes.f k).bind fun t350 => (some t350)))) = some r := h
 clear h
 replace H := Option.bind_eq_some_iff.mp H
 obtain ⟨t345, A20, H⟩ := H
 replace H : (if t345 = true then ((def_Print.f k a0_0 l0_1 l0_2).bind fun bt346 => ((remontoirref17_Print.f k a0_0 l0_1 l0_2).bind fun t348 => (if bt346.1.toList = t348.toList then (if (bt346.2 == (t348.toList != ([] : List UInt8))) = true then ((remontoirlaw17_wakes.f k).bind fun t349 => (some t349)) else (some false)) else (some false)))) else ((remontoirlaw17_wakes.f k).bind fun t350 => (some t350))) = some r := H
 have A2 := mk0 A20
 clear A20
 by_cases c3 : t345 = true
 ·
  subst c3
  have H1 : ((def_Print.f k a0_0 l0_1 l0_2).bind fun bt346 => ((remontoirref17_Print.f k a0_0 l0_1 l0_2).bind fun t348 => (if bt346.1.toList = t348.toList then (if (bt346.2 == (t348.toList != ([] : List UInt8))) = true then ((remontoirlaw17_wakes.f k).bind fun t349 => (some t349)) else (some false)) else (some false)))) = some r := by rw [if_pos rfl] at H; exact H
  clear H
  have H := H1
  clear H1
  replace H := Option.bind_eq_some_iff.mp H
  obtain ⟨⟨t346, t347⟩, A40, H⟩ := H
  replace H : ((remontoirref17_Print.f k a0_0 l0_1 l0_2).bind fun t348 => (if t346.toList = t348.toList then (if (t347 == (t348.toList != ([] : List UInt8))) = true then ((remontoirlaw17_wakes.f k).bind fun t349 => (some t349)) else (some false)) else (some false))) = some r := H
  have A4 := mk0 A40
  clear A40
  replace H := Option.bind_eq_some_iff.mp H
  obtain ⟨t348, A50, H⟩ := H
  replace H : (if t346.toList = t348.toList then (if (t347 == (t348.toList != ([] : List UInt8))) = true then ((remontoirlaw17_wakes.f k).bind fun t349 => (some t349)) else (some false)) else (some false)) = some r := H
  have A5 := mk0 A50
  clear A50
  by_cases c6 : t346.toList = t348.toList
  ·
   rw [if_pos c6] at H
   have c6b0 : (t346.toList == t348.toList) = true := beq_iff_eq.mpr c6
   have c6b1 : (t346.toList != t348.toList) = false := bne_eq_false_iff_eq.mpr c6
   clear c6
   by_cases c7 : (t347 == (t348.toList != ([] : List UInt8))) = true
   ·
    rw [if_pos c7] at H
    have c7b0 : (t347 == !t348.toList.isEmpty) = true := by revert c7; cases t348.toList <;> exact id
    clear c7
    replace H := Option.bind_eq_some_iff.mp H
    obtain ⟨t349, A80, H⟩ := H
    replace H : (some t349) = some r := H
    have A8 := mk0 A80
    clear A80
    obtain rfl := Option.some.inj H
    go_enter Tryd.func3, Tryd.ntmps3
    go_wp2_with (first | ((with_reducible refine gate_dst (N := 1) rfl ?_); refine box_event ?hg (N := 1) ?hd (cs := #[.string a0_0, .slice A0_1 l0_1.length c0_1, .slice A0_2 l0_2.length c0_2]) (t := 25) ?hr ?_; (case hd => rfl); (case hg => rfl); (case hr => first | (go_simp; done) | (go_simp; rfl)); intro gb344 hg w9 hbox hb; have n0_ := mk0 (bst HB.out hb); have n1_ := mk0 (hbox); have n2_ := mk0 (gle hg HB.out); have n3_ := mk0 (gle hg HB.out); clear HB; have HB := n0_; have BK344 := n1_; have GW344 := n2_; have GE344 := n3_; clear n0_ n1_ n2_ n3_; clear hb hbox hg; obtain ⟨hcz10_0, hcz10_1, hcz10_2, hfz10_0, hfz10_1, hfz10_2⟩ := blk3 BK344.out) | ((with_reducible refine gate_callee (f := 8) rfl ?_); refine goesL_ (some 7) rfl rfl Tryd.func8 (by kernel_rfl) rfl #[.agg #[.string a0_0, .slice A0_1 l0_1.length c0_1, .slice A0_2 l0_2.length c0_2]] rfl (by (try simp only [List.map_toArray, List.map_cons, List.map_nil]); first | done | rfl | (simp only [List.length_drop, List.length_take]; rfl)) ?_; (with_reducible refine (remontoirkeep_LightDef.calls k a0_0 _ _ l0_1 _ _ l0_2 true _ ?side1 ?side2 ?side3 ?side4 A2.out).mono ?_); (case side1 => repeat (first | exact (Kd.C_below HR0_1.out HB.out) | (with_reducible refine Kd.C_alloc ?_ _) | (with_reducible refine Kd.C_drewN ?_ _) | (with_reducible refine Kd.C_drew ?_))); (case side2 => exact HC0_1.out); (case side3 => repeat (first | exact (Kd.C_below HR0_2.out HB.out) | (with_reducible refine Kd.C_alloc ?_ _) | (with_reducible refine Kd.C_drewN ?_ _) | (with_reducible refine Kd.C_drew ?_))); (case side4 => exact HC0_2.out); rintro e w11 ⟨rfl, hb⟩; refine ⟨_, rfl, ?_⟩; have n0_ := mk0 (blk_below (obk BK344.out) hb); have n1_ := mk0 (bst HB.out hb); clear BK344; clear HB; have BK344 := n0_; have HB := n1_; clear n0_ n1_; (try clear hb); obtain ⟨hcz12_0, hcz12_1, hcz12_2, hfz12_0, hfz12_1, hfz12_2⟩ := blk3 BK344.out) | ((with_reducible refine gate_callee (f := 10) rfl ?_); refine goesL_ (some 12) rfl rfl Tryd.func10 (by kernel_rfl) rfl #[.agg #[.string a0_0, .slice A0_1 l0_1.length c0_1, .slice A0_2 l0_2.length c0_2]] rfl (by (try simp only [List.map_toArray, List.map_cons, List.map_nil]); first | done | rfl | (simp only [List.length_drop, List.length_take]; rfl)) ?_; (with_reducible refine (def_Print.calls k a0_0 _ _ l0_1 _ _ l0_2 t346 t347 _ (Tab.below hTab (by exact bok HB.out))  ?side1 ?side2 ?side3 ?side4 A4.out).mono ?_); (case side1 => repeat (first | exact (Kd.C_below HR0_1.out HB.out) | (with_reducible refine Kd.C_alloc ?_ _) | (with_reducible refine Kd.C_drewN ?_ _) | (with_reducible refine Kd.C_drew ?_))); (case side2 => exact HC0_1.out); (case side3 => repeat (first | exact (Kd.C_below HR0_2.out HB.out) | (with_reducible refine Kd.C_alloc ?_ _) | (with_reducible refine Kd.C_drewN ?_ _) | (with_reducible refine Kd.C_drew ?_))); (case side4 => exact HC0_2.out); rintro e w13 ⟨rfl, hb⟩; refine ⟨_, rfl, ?_⟩; have n0_ := mk0 (blk_below (obk BK344.out) hb); have n1_ := mk0 (bst HB.out hb); clear BK344; clear HB; have BK344 := n0_; have HB := n1_; clear n0_ n1_; (try clear hb); obtain ⟨hcz14_0, hcz14_1, hcz14_2, hfz14_0, hfz14_1, hfz14_2⟩ := blk3 BK344.out) | ((with_reducible refine gate_callee (f := 11) rfl ?_); refine goesL_ (some 16) rfl rfl Tryd.func11 (by kernel_rfl) rfl #[.agg #[.string a0_0, .slice A0_1 l0_1.length c0_1, .slice A0_2 l0_2.length c0_2]] rfl (by (try simp only [List.map_toArray, List.map_cons, List.map_nil]); first | done | rfl | (simp only [List.length_drop, List.length_take]; rfl)) ?_; (with_reducible refine (remontoirref17_Print.calls k a0_0 _ _ l0_1 _ _ l0_2 t348 _ ?side1 ?side2 ?side3 ?side4 A5.out).mono ?_); (case side1 => repeat (first | exact (Kd.C_below HR0_1.out HB.out) | (with_reducible refine Kd.C_alloc ?_ _) | (with_reducible refine Kd.C_drewN ?_ _) | (with_reducible refine Kd.C_drew ?_))); (case side2 => exact HC0_1.out); (case side3 => repeat (first | exact (Kd.C_below HR0_2.out HB.out) | (with_reducible refine Kd.C_alloc ?_ _) | (with_reducible refine Kd.C_drewN ?_ _) | (with_reducible refine Kd.C_drew ?_))); (case side4 => exact HC0_2.out); rintro e w15 ⟨rfl, hb⟩; refine ⟨_, rfl, ?_⟩; have n0_ := mk0 (blk_below (obk BK344.out) hb); have n1_ := mk0 (bst HB.out hb); clear BK344; clear HB; have BK344 := n0_; have HB := n1_; clear n0_ n1_; (try clear hb)) | (go_at_call 9; (with_reducible refine (remontoirlaw17_wakes.calls k  t349 _ (Tab.below hTab (by exact bok HB.out))  A8.out).mono ?_); rintro e w16 ⟨rfl, hb⟩; have n0_ := mk0 (blk_below (obk BK344.out) hb); have n1_ := mk0 (bst HB.out hb); clear BK344; clear HB; have BK344 := n0_; have HB := n1_; clear n0_ n1_; (try clear hb)))
    go_ret
    exact ⟨by first | rfl | (simp [*, errW_none, errW_some] <;> rfl), by exact bok HB.out⟩
   ·
    rw [if_neg c7] at H
    exact absurd (Option.some.inj H) (by rw [hr_]; decide)
  ·
   rw [if_neg c6] at H
   exact absurd (Option.some.inj H) (by rw [hr_]; decide)
 ·
  replace c3 := Bool.eq_false_iff.mpr c3
  subst c3
  have H1 : ((remontoirlaw17_wakes.f k).bind fun t350 => (some t350)) = some r := by rw [if_neg (show ¬ (false = true) by decide)] at H; exact H
  clear H
  have H := H1
  clear H1
  replace H := Option.bind_eq_some_iff.mp H
  obtain ⟨t350, A310, H⟩ := H
  replace H : (some t350) = some r := H
  have A31 := mk0 A310
  clear A310
  obtain rfl := Option.some.inj H
  go_enter Tryd.func3, Tryd.ntmps3
  go_wp2_with (first | ((with_reducible refine gate_dst (N := 1) rfl ?_); refine box_event ?hg (N := 1) ?hd (cs := #[.string a0_0, .slice A0_1 l0_1.length c0_1, .slice A0_2 l0_2.length c0_2]) (t := 25) ?hr ?_; (case hd => rfl); (case hg => rfl); (case hr => first | (go_simp; done) | (go_simp; rfl)); intro gb344 hg w32 hbox hb; have n0_ := mk0 (bst HB.out hb); have n1_ := mk0 (hbox); have n2_ := mk0 (gle hg HB.out); have n3_ := mk0 (gle hg HB.out); clear HB; have HB := n0_; have BK344 := n1_; have GW344 := n2_; have GE344 := n3_; clear n0_ n1_ n2_ n3_; clear hb hbox hg; obtain ⟨hcz33_0, hcz33_1, hcz33_2, hfz33_0, hfz33_1, hfz33_2⟩ := blk3 BK344.out) | ((with_reducible refine gate_callee (f := 8) rfl ?_); refine goesL_ (some 7) rfl rfl Tryd.func8 (by kernel_rfl) rfl #[.agg #[.string a0_0, .slice A0_1 l0_1.length c0_1, .slice A0_2 l0_2.length c0_2]] rfl (by (try simp only [List.map_toArray, List.map_cons, List.map_nil]); first | done | rfl | (simp only [List.length_drop, List.length_take]; rfl)) ?_; (with_reducible refine (remontoirkeep_LightDef.calls k a0_0 _ _ l0_1 _ _ l0_2 false _ ?side1 ?side2 ?side3 ?side4 A2.out).mono ?_); (case side1 => repeat (first | exact (Kd.C_below HR0_1.out HB.out) | (with_reducible refine Kd.C_alloc ?_ _) | (with_reducible refine Kd.C_drewN ?_ _) | (with_reducible refine Kd.C_drew ?_))); (case side2 => exact HC0_1.out); (case side3 => repeat (first | exact (Kd.C_below HR0_2.out HB.out) | (with_reducible refine Kd.C_alloc ?_ _) | (with_reducible refine Kd.C_drewN ?_ _) | (with_reducible refine Kd.C_drew ?_))); (case side4 => exact HC0_2.out); rintro e w34 ⟨rfl, hb⟩; refine ⟨_, rfl, ?_⟩; have n0_ := mk0 (blk_below (obk BK344.out) hb); have n1_ := mk0 (bst HB.out hb); clear BK344; clear HB; have BK344 := n0_; have HB := n1_; clear n0_ n1_; (try clear hb)) | ((with_reducible refine gate_callee (f := 9) rfl ?_); refine goesL_ (some 9) rfl rfl Tryd.func9 (by kernel_rfl) rfl #[] rfl (by (try simp only [List.map_toArray, List.map_cons, List.map_nil]); first | done | rfl | (simp only [List.length_drop, List.length_take]; rfl)) ?_; (with_reducible refine (remontoirlaw17_wakes.calls k  t350 _ (Tab.below hTab (by exact bok HB.out))  A31.out).mono ?_); rintro e w35 ⟨rfl, hb⟩; refine ⟨_, rfl, ?_⟩; have n0_ := mk0 (blk_below (obk BK344.out) hb); have n1_ := mk0 (bst HB.out hb); clear BK344; clear HB; have BK344 := n0_; have HB := n1_; clear n0_ n1_; (try clear hb)))
  go_ret
  exact ⟨by first | rfl | (simp [*, errW_none, errW_some] <;> rfl), by exact bok HB.out⟩

end Go.Proofs.YtpalncojmknlbaaDoor.Y
