/- What Go functions compute, as plain Lean functions, and that the machine comes to just that: written by wip/tools/printx.py (my run of the printer, with contracts of mine beside it). -/
import Derived.Test.YtpalncojmknlbaaDoorOn
import Derived.Test.YtpalncojmknlbaaDoorDefNode
import Derived.Test.YtpalncojmknlbaaDoorDefWrite
import Derived.Test.YtpalncojmknlbaaDoorAx2
import Derived.Test.YtpalncojmknlbaaDoorYx0
import Derived.Test.YtpalncojmknlbaaDoorYx9
import Derived.Test.YtpalncojmknlbaaDoorYx11
namespace Go.Proofs.YtpalncojmknlbaaDoor.Y
open Go.Proofs.YtpalncojmknlbaaDoor.Ext Go.Proofs.YtpalncojmknlbaaDoor.A Go.RowKit Go.Proofs.YtpalncojmknlbaaDoorW.PrintWords Go.Proofs.YtpalncojmknlbaaDoorW.PrintLast Go.Proofs.YtpalncojmknlbaaDoorW.PrintMore
attribute [local go_sem] max2_int min2_int max_two min_two max_three min_three max_four min_four   -- for this text's walks alone
set_option linter.unusedVariables false
set_option linter.unusedSimpArgs false

/-! ### remontoirref17_flow: function 37 -/
mutual
def remontoirref17_flow.j0 : Nat → List ByteArray → Bool → Int → Int → Int → Int → ByteArray → Option (Int × Int × Int × Int × ByteArray × Bool)
 | 0, _, _, _, _, _, _, _ => none
 | k + 1, x0, x16, x268000, x268001, x268002, x268003, x268004 => if x16 = true then (some (x268000, x268001, x268002, x268003, x268004, false)) else (if 1 < (x0.length : Int) then ((remontoirref17_number.f k (rdOf ByteArray.empty x0 1)).bind fun bt270 => (if 2 < (x0.length : Int) then ((remontoirref17_number.f k (rdOf ByteArray.empty x0 2)).bind fun bt273 => (if bt270.2 = true then (remontoirref17_flow.j1 k x0 (!bt273.2) bt270.1 bt273.1 x268002 x268003 x268004) else (remontoirref17_flow.j1 k x0 true bt270.1 bt273.1 x268002 x268003 x268004))) else (none))) else (none))
def remontoirref17_flow.j1 : Nat → List ByteArray → Bool → Int → Int → Int → Int → ByteArray → Option (Int × Int × Int × Int × ByteArray × Bool)
 | 0, _, _, _, _, _, _, _ => none
 | k + 1, x0, x34, x268000, x268001, x268002, x268003, x268004 => if x34 = true then (some (x268000, x268001, x268002, x268003, x268004, false)) else (if (x0.length : Int) = 3 then (some (x268000, x268001, x268002, x268003, x268004, true)) else (if (x0.length : Int) = 4 then (if 3 < (x0.length : Int) then (remontoirref17_flow.j2 k x0 ((rdOf ByteArray.empty x0 3).toList == ([100, 101, 102, 97, 117, 108, 116] : List UInt8)) x268000 x268001 x268002 x268003 x268004) else (none)) else (remontoirref17_flow.j2 k x0 false x268000 x268001 x268002 x268003 x268004)))
def remontoirref17_flow.j2 : Nat → List ByteArray → Bool → Int → Int → Int → Int → ByteArray → Option (Int × Int × Int × Int × ByteArray × Bool)
 | 0, _, _, _, _, _, _, _ => none
 | k + 1, x0, x47, x268000, x268001, x268002, x268003, x268004 => if x47 = true then (some (x268000, x268001, 1, x268003, x268004, true)) else (if (x0.length : Int) ≥ 5 then (if 3 < (x0.length : Int) then (remontoirref17_flow.j3 k x0 ((rdOf ByteArray.empty x0 3).toList == ([105, 102] : List UInt8)) x268000 x268001 x268002 x268003 x268004) else (none)) else (remontoirref17_flow.j3 k x0 false x268000 x268001 x268002 x268003 x268004))
def remontoirref17_flow.j3 : Nat → List ByteArray → Bool → Int → Int → Int → Int → ByteArray → Option (Int × Int × Int × Int × ByteArray × Bool)
 | 0, _, _, _, _, _, _, _ => none
 | k + 1, x0, x59, x268000, x268001, x268002, x268003, x268004 => if x59 = true then (if 4 ≤ (x0.length : Int) then ((remontoirref17_rest.f k (x0.drop 4)).bind fun t278 => (some (x268000, x268001, 2, x268003, t278, (t278.toList != ([] : List UInt8))))) else (none)) else (if (x0.length : Int) ≥ 7 then (if 3 < (x0.length : Int) then (if (rdOf ByteArray.empty x0 3).toList = ([97, 103, 97, 105, 110] : List UInt8) then (if 5 < (x0.length : Int) then (remontoirref17_flow.j4 k x0 ((rdOf ByteArray.empty x0 5).toList == ([105, 102] : List UInt8)) x268000 x268001 x268002 x268003 x268004) else (none)) else (remontoirref17_flow.j4 k x0 false x268000 x268001 x268002 x268003 x268004)) else (none)) else (remontoirref17_flow.j4 k x0 false x268000 x268001 x268002 x268003 x268004))
def remontoirref17_flow.j4 : Nat → List ByteArray → Bool → Int → Int → Int → Int → ByteArray → Option (Int × Int × Int × Int × ByteArray × Bool)
 | 0, _, _, _, _, _, _, _ => none
 | k + 1, x0, x78, x268000, x268001, x268002, x268003, x268004 => if x78 = true then (if 4 < (x0.length : Int) then ((remontoirref17_number.f k (rdOf ByteArray.empty x0 4)).bind fun bt282 => (if 6 ≤ (x0.length : Int) then ((remontoirref17_rest.f k (x0.drop 6)).bind fun t285 => (if bt282.2 = true then (some (x268000, x268001, 3, bt282.1, t285, (t285.toList != ([] : List UInt8)))) else (some (x268000, x268001, 3, bt282.1, t285, false)))) else (none))) else (none)) else (some (x268000, x268001, x268002, x268003, x268004, false))
end
def remontoirref17_flow.f (k : Nat) (l0 : List ByteArray) : Option (Int × Int × Int × Int × ByteArray × Bool) := if (l0.length : Int) < 3 then (remontoirref17_flow.j0 k l0 true 0 0 0 0 (⟨#[]⟩ : ByteArray)) else (if 0 < (l0.length : Int) then (remontoirref17_flow.j0 k l0 ((rdOf ByteArray.empty l0 0).toList != ([102, 108, 111, 119] : List UInt8)) 0 0 0 0 (⟨#[]⟩ : ByteArray)) else (none))
def remontoirref17_flow.T20 : Bool × List (List Nat × List Nat) := (true, [([], []), ([], []), ([1], [1]), ([2], [2]), ([3, 2], [2, 3]), ([4, 2], [2, 4]), ([2, 5], [2, 5]), ([0, 2, 0], [0]), ([6, 7, 0, 1, 2, 3, 4, 5, 6, 7], [6])])
def remontoirref17_flow.B20 : List Nat := [0, 0, 2, 6, 14, 30, 62, 7, 255]
theorem remontoirref17_flow.tab20 : rtab .any (opsOf Tryd.f37 20) = remontoirref17_flow.T20 := by kernel_rfl
theorem remontoirref17_flow.bits20 : waitsOk remontoirref17_flow.T20.2 remontoirref17_flow.B20 = true := by kernel_rfl
set_option maxHeartbeats 8000000 in
set_option maxRecDepth 100000 in
theorem remontoirref17_flow.calls (k : Nat) (A0 : Option Addr) (c0 : Nat) (l0 : List ByteArray) (r1 : Int) (r2 : Int) (r3 : Int) (r4 : Int) (r5 : ByteArray) (r6 : Bool) (w : World) (hr0 : Kd.C Kd.string w A0 l0.length l0) (hc0 : l0.length ≤ c0) (h : remontoirref17_flow.f k l0 = some (r1, r2, r3, r4, r5, r6)) :
  Calls Tryd.prog 37 #[.slice A0 l0.length c0] w fun e w' => e = .returned (.tuple #[.agg #[.int .i64 r1, .int .i64 r2, .int .i64 r3, .int .i64 r4, .string r5], .bool r6]) ∧ Below w.heap.size w w' := by
 have hu42 := Tryd.underlying42
 have HR0 := mk0 hr0
 have HC0 := mk0 hc0
 clear hr0 hc0
 have HB := mk0 (Below.refl w.heap.size w)
 have H : (if (l0.length : Int) < 3 then (remontoirref17_flow.j0 k l0 true 0 0 0 0 (⟨#[]⟩ : ByteArray)) else (if 0 < (l0.length : Int) then (remontoirref17_flow.j0 k l0 ((rdOf ByteArray.empty l0 0).toList != ([102, 108, 111, 119] : List UInt8)) 0 0 0 0 (⟨#[]⟩ : ByteArray)) else (none))) = some (r1, r2, r3, r4, r5, r6) := h
 clear h
 have HC2 := mk0 H
 clear H
 go_enter Tryd.func37, Tryd.ntmps37
 go_upto_region 2 with (first | ((with_reducible refine gate_dst (N := 2) rfl ?_); refine box_event ?hg (N := 2) ?hd (cs := #[.int .i64 0, .int .i64 0, .int .i64 0, .int .i64 0, .string (⟨#[]⟩ : ByteArray)]) (t := 42) ?hr ?_; (case hd => rfl); (case hg => rfl); (case hr => first | (go_simp; done) | (go_simp; rfl)); intro gb266 hg w3 hbox hb; have n0_ := mk0 (bst HB.out hb); have n1_ := mk0 (hbox); have n2_ := mk0 (gle hg HB.out); have n3_ := mk0 (gle hg HB.out); clear HB; have HB := n0_; have BK266 := n1_; have GW266 := n2_; have GE266 := n3_; clear n0_ n1_ n2_ n3_; clear hb hbox hg) | ((with_reducible refine gate_dst (N := 4) rfl ?_); refine box_event ?hg (N := 4) ?hd (cs := #[.int .i64 0, .int .i64 0, .int .i64 0, .int .i64 0, .string (⟨#[]⟩ : ByteArray)]) (t := 42) ?hr ?_; (case hd => rfl); (case hg => rfl); (case hr => first | (go_simp; done) | (go_simp; rfl)); intro gb267 hg w4 hbox hb; have n0_ := mk0 (blk_below (obk BK266.out) hb); have n1_ := mk0 (bst HB.out hb); have n2_ := mk0 (hbox); have n3_ := mk0 (gle hg HB.out); have n4_ := mk0 (gle hg HB.out); have n5_ := mk0 (nlt hg BK266.out); have n6_ := mk0 (ngt hg BK266.out); clear BK266; clear HB; have BK266 := n0_; have HB := n1_; have BK267 := n2_; have GW267 := n3_; have GE267 := n4_; have NB266_267 := n5_; have NB267_266 := n6_; clear n0_ n1_ n2_ n3_ n4_ n5_ n6_; clear hb hbox hg; have hnb5 := NB267_266.out; have hnc5 := NB266_267.out; obtain ⟨hcz6_0, hcz6_1, hcz6_2, hcz6_3, hcz6_4, hfz6_0, hfz6_1, hfz6_2, hfz6_3, hfz6_4⟩ := blk5 BK267.out))
 (try simp only [Act.put, List.setIfInBounds_toArray, List.set_cons_zero, List.set_cons_succ])
 go_cut [16] (fun v16 wc => ∃ (kq : Nat) (x16_1 : Bool), v16 = .bool x16_1 ∧ Aside0 (remontoirref17_flow.j0 kq l0 x16_1 0 0 0 0 (⟨#[]⟩ : ByteArray) = some (r1, r2, r3, r4, r5, r6)) ∧ Aside0 (kq ≤ k) ∧ Aside0 (wc.heap[gb266]? = some (.cells #[.int .i64 0, .int .i64 0, .int .i64 0, .int .i64 0, .string (⟨#[]⟩ : ByteArray)] 42 (0, 0))) ∧ Aside0 (wc.heap[gb267]? = some (.cells #[.int .i64 0, .int .i64 0, .int .i64 0, .int .i64 0, .string (⟨#[]⟩ : ByteArray)] 42 (0, 0))) ∧ Aside0 (Below w.heap.size w wc))
 case first =>
  have H := HC2.out
  clear HC2
  by_cases c7 : (l0.length : Int) < 3
  ·
   rw [if_pos c7] at H
   have c7b0 : decide ((l0.length : Int) < 3) = true := decide_eq_true c7
   have c7b1 : decide (l0.length < 3) = true := decide_eq_true (by omega)
   clear c7
   (first | rw [c7b0] | (simp only [i64_w, i32_w]; rw [c7b0]) | skip)
   have H' := mk0 H
   clear H
   go_wp2
   go_meet
   case rel => exact ⟨_, (true), (by first | rfl | (simp; done) | (simp [*]; done)), H', ⟨by first | omega | exact Nat.le_refl _⟩, ⟨by refine obk ?_; refine blk_far ?_ NB266_267.out _; refine obk ?_; refine blk_far ?_ NB266_267.out _; refine obk ?_; refine blk_far ?_ NB266_267.out _; refine obk ?_; refine blk_far ?_ NB266_267.out _; refine obk ?_; refine blk_far ?_ NB266_267.out _; exact obk BK266.out⟩, ⟨by refine obk ?_; refine blk_put (cs := #[.int .i64 0, .int .i64 0, .int .i64 0, .int .i64 0, .string (⟨#[]⟩ : ByteArray)]) ?_ 4 _ rfl; refine obk ?_; refine blk_put (cs := #[.int .i64 0, .int .i64 0, .int .i64 0, .int .i64 0, .string (⟨#[]⟩ : ByteArray)]) ?_ 3 _ rfl; refine obk ?_; refine blk_put (cs := #[.int .i64 0, .int .i64 0, .int .i64 0, .int .i64 0, .string (⟨#[]⟩ : ByteArray)]) ?_ 2 _ rfl; refine obk ?_; refine blk_put (cs := #[.int .i64 0, .int .i64 0, .int .i64 0, .int .i64 0, .string (⟨#[]⟩ : ByteArray)]) ?_ 1 _ rfl; refine obk ?_; refine blk_put (cs := #[.int .i64 0, .int .i64 0, .int .i64 0, .int .i64 0, .string (⟨#[]⟩ : ByteArray)]) ?_ 0 _ rfl; exact obk BK267.out⟩, ⟨by exact bok HB.out⟩⟩
  ·
   rw [if_neg c7] at H
   have c7b0 : decide ((l0.length : Int) < 3) = false := decide_eq_false c7
   have c7b1 : decide (l0.length < 3) = false := decide_eq_false (by omega)
   clear c7
   (first | rw [c7b0] | (simp only [i64_w, i32_w]; rw [c7b0]) | skip)
   by_cases c8 : 0 < (l0.length : Int)
   ·
    rw [if_pos c8] at H
    have c8b0 : decide (0 < (l0.length : Int)) = true := decide_eq_true c8
    have c8b1 : decide (0 < l0.length) = true := decide_eq_true (by omega)
    clear c8
    have H' := mk0 H
    clear H
    have p268 : 0 ≤ (0 : Int) := (by omega)
    have q268 : 0 < (l0.length : Int) := of_decide_eq_true (by assumption)
    obtain ⟨ad268, e268, hx268_0⟩ := Kd.at_string HR0.out 0 p268 q268
    cases e268
    have qi268 : (0 < l0.length) = True := eq_true (by omega)
    (try rw [show ((0 : Int)).toNat = 0 from rfl] at hx268_0)
    (try rw [Addr.add_zero'] at hx268_0)
    have hn268_0 : ad268.block ≠ gb267 := Nat.ne_of_lt (Nat.lt_of_lt_of_le (by have := World.block_lt_of_cell? _ _ hx268_0; first | rwa [add_block] at this | exact this) GW267.out)
    have hn268_1 : ad268.block ≠ gb267 := Nat.ne_of_lt (Nat.lt_of_lt_of_le (by have := World.block_lt_of_cell? _ _ hx268_0; first | rwa [add_block] at this | exact this) GW267.out)
    have hn268_2 : ad268.block ≠ gb267 := Nat.ne_of_lt (Nat.lt_of_lt_of_le (by have := World.block_lt_of_cell? _ _ hx268_0; first | rwa [add_block] at this | exact this) GW267.out)
    have hn268_3 : ad268.block ≠ gb267 := Nat.ne_of_lt (Nat.lt_of_lt_of_le (by have := World.block_lt_of_cell? _ _ hx268_0; first | rwa [add_block] at this | exact this) GW267.out)
    have hn268_4 : ad268.block ≠ gb267 := Nat.ne_of_lt (Nat.lt_of_lt_of_le (by have := World.block_lt_of_cell? _ _ hx268_0; first | rwa [add_block] at this | exact this) GW267.out)
    replace hx268_0 := (HB.out.cell (World.block_lt_of_cell? w _ hx268_0)).trans hx268_0
    replace hx268_0 := (cell_far (p := ⟨gb267, 0, none⟩) (by first | (rw [add_block]; exact hn268_0) | (show (Addr.add _ _).block ≠ _; rw [add_block]; exact hn268_0) | exact hn268_0) (.int .i64 0)).trans hx268_0
    replace hx268_0 := (cell_far (p := ⟨gb267, 1, none⟩) (by first | (rw [add_block]; exact hn268_1) | (show (Addr.add _ _).block ≠ _; rw [add_block]; exact hn268_1) | exact hn268_1) (.int .i64 0)).trans hx268_0
    replace hx268_0 := (cell_far (p := ⟨gb267, 2, none⟩) (by first | (rw [add_block]; exact hn268_2) | (show (Addr.add _ _).block ≠ _; rw [add_block]; exact hn268_2) | exact hn268_2) (.int .i64 0)).trans hx268_0
    replace hx268_0 := (cell_far (p := ⟨gb267, 3, none⟩) (by first | (rw [add_block]; exact hn268_3) | (show (Addr.add _ _).block ≠ _; rw [add_block]; exact hn268_3) | exact hn268_3) (.int .i64 0)).trans hx268_0
    replace hx268_0 := (cell_far (p := ⟨gb267, 4, none⟩) (by first | (rw [add_block]; exact hn268_4) | (show (Addr.add _ _).block ≠ _; rw [add_block]; exact hn268_4) | exact hn268_4) (.string (⟨#[]⟩ : ByteArray))).trans hx268_0
    clear hn268_0
    clear hn268_1
    clear hn268_2
    clear hn268_3
    clear hn268_4
    replace p268 := eq_true p268
    replace q268 := eq_true q268
    go_wp2
    go_meet
    case rel => exact ⟨_, (((rdOf ByteArray.empty l0 0).toList != ([102, 108, 111, 119] : List UInt8))), (by first | rfl | (simp; done) | (simp [*]; done)), H', ⟨by first | omega | exact Nat.le_refl _⟩, ⟨by refine obk ?_; refine blk_far ?_ NB266_267.out _; refine obk ?_; refine blk_far ?_ NB266_267.out _; refine obk ?_; refine blk_far ?_ NB266_267.out _; refine obk ?_; refine blk_far ?_ NB266_267.out _; refine obk ?_; refine blk_far ?_ NB266_267.out _; exact obk BK266.out⟩, ⟨by refine obk ?_; refine blk_put (cs := #[.int .i64 0, .int .i64 0, .int .i64 0, .int .i64 0, .string (⟨#[]⟩ : ByteArray)]) ?_ 4 _ rfl; refine obk ?_; refine blk_put (cs := #[.int .i64 0, .int .i64 0, .int .i64 0, .int .i64 0, .string (⟨#[]⟩ : ByteArray)]) ?_ 3 _ rfl; refine obk ?_; refine blk_put (cs := #[.int .i64 0, .int .i64 0, .int .i64 0, .int .i64 0, .string (⟨#[]⟩ : ByteArray)]) ?_ 2 _ rfl; refine obk ?_; refine blk_put (cs := #[.int .i64 0, .int .i64 0, .int .i64 0, .int .i64 0, .string (⟨#[]⟩ : ByteArray)]) ?_ 1 _ rfl; refine obk ?_; refine blk_put (cs := #[.int .i64 0, .int .i64 0, .int .i64 0, .int .i64 0, .string (⟨#[]⟩ : ByteArray)]) ?_ 0 _ rfl; exact obk BK267.out⟩, ⟨by exact bok HB.out⟩⟩
   ·
    rw [if_neg c8] at H
    exact absurd H (by simp)
 case rest =>
  clear HC2
  try clear p2
  try clear q2
  try clear hx2
  try clear qi2
  try clear c3
  try clear c5
  try clear c7
  try clear c7b0
  try clear c7b1
  try clear c8
  try clear c8b0
  try clear c8b1
  try clear hx268_0
  try clear p268
  try clear q268
  obtain ⟨kq, x16_1, rfl, HA, HJ1, BK266, BK267, HB⟩ := hcut
  cases kq with
  | zero => exact absurd HA.out (by simp [remontoirref17_flow.j0])
  | succ kj1 =>
   have H := HA.out
   clear HA
   simp only [remontoirref17_flow.j0] at H
   by_cases c9 : x16_1 = true
   ·
    subst c9
    have H1 : (some (0, 0, 0, 0, (⟨#[]⟩ : ByteArray), false)) = some (r1, r2, r3, r4, r5, r6) := by rw [if_pos rfl] at H; exact H
    clear H
    have H := H1
    clear H1
    simp only [Option.some.injEq, Prod.mk.injEq] at H
    obtain ⟨rfl, rfl, rfl, rfl, rfl, rfl⟩ := H
    have hnb10 := NB267_266.out
    have hnc10 := NB266_267.out
    obtain ⟨hcz11_0, hcz11_1, hcz11_2, hcz11_3, hcz11_4, hfz11_0, hfz11_1, hfz11_2, hfz11_3, hfz11_4⟩ := blk5 BK267.out
    obtain ⟨hcz12_0, hcz12_1, hcz12_2, hcz12_3, hcz12_4, hfz12_0, hfz12_1, hfz12_2, hfz12_3, hfz12_4⟩ := blk5 BK266.out
    go_wp2
    refine bodyPost_ret (results_ct rfl _ _ gb266 42 #[.int .i64 0, .int .i64 0, .int .i64 0, .int .i64 0, .string (⟨#[]⟩ : ByteArray)] (0, 0) _ rfl (by exact obk (blk_put (obk (blk_put (obk (blk_put (obk (blk_put (obk (blk_put (obk BK266.out) 0 _ rfl)) 1 _ rfl)) 2 _ rfl)) 3 _ rfl)) 4 _ rfl)) Tryd.underlying42 rfl (by kernel_rfl)) rfl ?_
    exact ⟨by first | rfl | (simp [*, errW_none, errW_some] <;> rfl) | (simp [errW_none, errW_some]; exact isEmpty_ne _), by exact bok HB.out⟩
   ·
    replace c9 := Bool.eq_false_iff.mpr c9
    subst c9
    have H1 : (if 1 < (l0.length : Int) then ((remontoirref17_number.f kj1 (rdOf ByteArray.empty l0 1)).bind fun bt270 => (if 2 < (l0.length : Int) then ((remontoirref17_number.f kj1 (rdOf ByteArray.empty l0 2)).bind fun bt273 => (if bt270.2 = true then (remontoirref17_flow.j1 kj1 l0 (!bt273.2) bt270.1 bt273.1 0 0 (⟨#[]⟩ : ByteArray)) else (remontoirref17_flow.j1 kj1 l0 true bt270.1 bt273.1 0 0 (⟨#[]⟩ : ByteArray)))) else (none))) else (none)) = some (r1, r2, r3, r4, r5, r6) := by rw [if_neg (show ¬ (false = true) by decide)] at H; exact H
    clear H
    have H := H1
    clear H1
    by_cases c13 : 1 < (l0.length : Int)
    ·
     rw [if_pos c13] at H
     have c13b0 : decide (1 < (l0.length : Int)) = true := decide_eq_true c13
     have c13b1 : decide (1 < l0.length) = true := decide_eq_true (by omega)
     clear c13
     replace H := Option.bind_eq_some_iff.mp H
     obtain ⟨⟨t270, t271⟩, A140, H⟩ := H
     replace H : (if 2 < (l0.length : Int) then ((remontoirref17_number.f kj1 (rdOf ByteArray.empty l0 2)).bind fun bt273 => (if t271 = true then (remontoirref17_flow.j1 kj1 l0 (!bt273.2) t270 bt273.1 0 0 (⟨#[]⟩ : ByteArray)) else (remontoirref17_flow.j1 kj1 l0 true t270 bt273.1 0 0 (⟨#[]⟩ : ByteArray)))) else (none)) = some (r1, r2, r3, r4, r5, r6) := H
     have A14 := mk0 A140
     clear A140
     by_cases c15 : 2 < (l0.length : Int)
     ·
      rw [if_pos c15] at H
      have c15b0 : decide (2 < (l0.length : Int)) = true := decide_eq_true c15
      have c15b1 : decide (2 < l0.length) = true := decide_eq_true (by omega)
      clear c15
      replace H := Option.bind_eq_some_iff.mp H
      obtain ⟨⟨t273, t274⟩, A160, H⟩ := H
      replace H : (if t271 = true then (remontoirref17_flow.j1 kj1 l0 (!t274) t270 t273 0 0 (⟨#[]⟩ : ByteArray)) else (remontoirref17_flow.j1 kj1 l0 true t270 t273 0 0 (⟨#[]⟩ : ByteArray))) = some (r1, r2, r3, r4, r5, r6) := H
      have A16 := mk0 A160
      clear A160
      have HC17 := mk0 H
      clear H
      have p269 : 0 ≤ (1 : Int) := (by omega)
      have q269 : 1 < (l0.length : Int) := of_decide_eq_true (by assumption)
      obtain ⟨ad269, e269, hx269_0⟩ := Kd.at_string HR0.out 1 p269 q269
      cases e269
      (try simp only [show (1 : Int).toNat = 1 from rfl, Nat.reduceMul, Nat.reduceEqDiff, Go.Addr.add, ↓reduceIte] at hx269_0)
      have qi269 : (1 < l0.length) = True := eq_true (by omega)
      (try rw [show ((1 : Int)).toNat = 1 from rfl] at hx269_0)
      replace hx269_0 := (HB.out.cell (World.block_lt_of_cell? w _ hx269_0)).trans hx269_0
      replace p269 := eq_true p269
      replace q269 := eq_true q269
      go_upto_region 7 with (first | ((with_reducible refine gate_callee (f := 48) rfl ?_); refine goesL_ (some 22) rfl rfl Tryd.func48 (by kernel_rfl) rfl #[.string (rdOf ByteArray.empty l0 1)] rfl (by (try simp only [List.map_toArray, List.map_cons, List.map_nil]); first | done | rfl | (simp only [List.length_drop, List.length_take]; rfl)) ?_; (with_reducible refine (remontoirref17_number.calls kj1 (rdOf ByteArray.empty l0 1) t270 t271 _ A14.out).mono ?_); rintro e w18 ⟨rfl, hb⟩; refine ⟨_, rfl, ?_⟩; have n0_ := mk0 (blk_below (obk BK266.out) hb); have n1_ := mk0 (blk_below (obk BK267.out) hb); have n2_ := mk0 (bst HB.out hb); clear BK266; clear BK267; clear HB; have BK266 := n0_; have BK267 := n1_; have HB := n2_; clear n0_ n1_ n2_; (try clear hb); have hnb19 := NB267_266.out; have hnc19 := NB266_267.out; obtain ⟨hcz20_0, hcz20_1, hcz20_2, hcz20_3, hcz20_4, hfz20_0, hfz20_1, hfz20_2, hfz20_3, hfz20_4⟩ := blk5 BK267.out; have p272 : 0 ≤ (2 : Int) := (by omega); have q272 : 2 < (l0.length : Int) := of_decide_eq_true (by assumption); obtain ⟨ad272, e272, hx272_0⟩ := Kd.at_string HR0.out 2 p272 q272; obtain rfl : ad269 = ad272 := (by injection e272); (try simp only [show (2 : Int).toNat = 2 from rfl, Nat.reduceMul, Nat.reduceEqDiff, Go.Addr.add, ↓reduceIte] at hx272_0); have qi272 : (2 < l0.length) = True := eq_true (by omega); (try rw [show ((2 : Int)).toNat = 2 from rfl] at hx272_0); have hn272_0 : ad269.block ≠ gb267 := Nat.ne_of_lt (Nat.lt_of_lt_of_le (by have := World.block_lt_of_cell? _ _ hx272_0; first | rwa [add_block] at this | exact this) GW267.out); replace hx272_0 := (HB.out.cell (World.block_lt_of_cell? w _ hx272_0)).trans hx272_0; replace hx272_0 := (cell_far (p := ⟨gb267, 0, none⟩) (by first | (rw [add_block]; exact hn272_0) | (show (Addr.add _ _).block ≠ _; rw [add_block]; exact hn272_0) | exact hn272_0) (.int .i64 t270)).trans hx272_0; clear hn272_0; replace p272 := eq_true p272; replace q272 := eq_true q272) | ((with_reducible refine gate_callee (f := 48) rfl ?_); refine goesL_ (some 30) rfl rfl Tryd.func48 (by kernel_rfl) rfl #[.string (rdOf ByteArray.empty l0 2)] rfl (by (try simp only [List.map_toArray, List.map_cons, List.map_nil]); first | done | rfl | (simp only [List.length_drop, List.length_take]; rfl)) ?_; (with_reducible refine (remontoirref17_number.calls kj1 (rdOf ByteArray.empty l0 2) t273 t274 _ A16.out).mono ?_); rintro e w21 ⟨rfl, hb⟩; refine ⟨_, rfl, ?_⟩; have n0_ := mk0 (blk_below (obf BK266.out) hb); have n1_ := mk0 (blk_below (g := gb267) (o := .cells #[.int .i64 t270, .int .i64 0, .int .i64 0, .int .i64 0, .string (⟨#[]⟩ : ByteArray)] 42 (0, 0)) (by exact obk (blk_put (obk BK267.out) 0 _ rfl)) hb); have n2_ := mk0 (bst HB.out hb); clear BK266; clear BK267; clear HB; have BK266 := n0_; have BK267 := n1_; have HB := n2_; clear n0_ n1_ n2_; (try clear hb); obtain ⟨hcz22_0, hcz22_1, hcz22_2, hcz22_3, hcz22_4, hfz22_0, hfz22_1, hfz22_2, hfz22_3, hfz22_4⟩ := blk5 BK267.out))
      (try simp only [Act.put, List.setIfInBounds_toArray, List.set_cons_zero, List.set_cons_succ])
      go_cut [34] (fun v34 wc => ∃ (kq : Nat) (x34_16 : Bool), v34 = .bool x34_16 ∧ Aside0 (remontoirref17_flow.j1 kq l0 x34_16 t270 t273 0 0 (⟨#[]⟩ : ByteArray) = some (r1, r2, r3, r4, r5, r6)) ∧ Aside0 (kq ≤ kj1) ∧ Aside0 (wc.heap[gb266]? = some (.cells #[.int .i64 0, .int .i64 0, .int .i64 0, .int .i64 0, .string (⟨#[]⟩ : ByteArray)] 42 (0, 0))) ∧ Aside0 (wc.heap[gb267]? = some (.cells #[.int .i64 t270, .int .i64 t273, .int .i64 0, .int .i64 0, .string (⟨#[]⟩ : ByteArray)] 42 (0, 0))) ∧ Aside0 (Below w.heap.size w wc))
      case first =>
       have H := HC17.out
       clear HC17
       by_cases c23 : t271 = true
       ·
        subst c23
        have H1 : (remontoirref17_flow.j1 kj1 l0 (!t274) t270 t273 0 0 (⟨#[]⟩ : ByteArray)) = some (r1, r2, r3, r4, r5, r6) := by rw [if_pos rfl] at H; exact H
        clear H
        have H := H1
        clear H1
        have H' := mk0 H
        clear H
        go_wp2
        go_meet
        case rel => exact ⟨_, (!t274), (by first | rfl | (simp; done) | (simp [*]; done)), H', ⟨by have := HJ1.out; first | omega | exact Nat.le_refl _⟩, ⟨by refine obk ?_; refine blk_far ?_ NB266_267.out _; exact obk BK266.out⟩, ⟨by refine obk ?_; refine blk_put (cs := #[.int .i64 t270, .int .i64 0, .int .i64 0, .int .i64 0, .string (⟨#[]⟩ : ByteArray)]) ?_ 1 _ rfl; exact obk BK267.out⟩, ⟨by exact bok HB.out⟩⟩
       ·
        replace c23 := Bool.eq_false_iff.mpr c23
        subst c23
        have H1 : (remontoirref17_flow.j1 kj1 l0 true t270 t273 0 0 (⟨#[]⟩ : ByteArray)) = some (r1, r2, r3, r4, r5, r6) := by rw [if_neg (show ¬ (false = true) by decide)] at H; exact H
        clear H
        have H := H1
        clear H1
        have H' := mk0 H
        clear H
        go_wp2
        go_meet
        case rel => exact ⟨_, (true), (by first | rfl | (simp; done) | (simp [*]; done)), H', ⟨by have := HJ1.out; first | omega | exact Nat.le_refl _⟩, ⟨by refine obk ?_; refine blk_far ?_ NB266_267.out _; exact obk BK266.out⟩, ⟨by refine obk ?_; refine blk_put (cs := #[.int .i64 t270, .int .i64 0, .int .i64 0, .int .i64 0, .string (⟨#[]⟩ : ByteArray)]) ?_ 1 _ rfl; exact obk BK267.out⟩, ⟨by exact bok HB.out⟩⟩
      case rest =>
       clear HC17
       try clear c1
       try clear c2
       try clear p2
       try clear q2
       try clear hx2
       try clear qi2
       try clear c3
       try clear c4
       try clear c5
       try clear c7
       try clear c7b0
       try clear c7b1
       try clear c8
       try clear c8b0
       try clear c8b1
       try clear c9
       try clear c10
       try clear c13
       try clear c13b0
       try clear c13b1
       try clear c15
       try clear c15b0
       try clear c15b1
       try clear c19
       try clear c23
       try clear hx268_0
       try clear hx269_0
       try clear hx272_0
       try clear p2
       try clear p268
       try clear p269
       try clear p272
       try clear q2
       try clear q268
       try clear q269
       try clear q272
       obtain ⟨kq, x34_16, rfl, HA, HJ16, BK266, BK267, HB⟩ := hcut
       cases kq with
       | zero => exact absurd HA.out (by simp [remontoirref17_flow.j1])
       | succ kj16 =>
        have H := HA.out
        clear HA
        simp only [remontoirref17_flow.j1] at H
        by_cases c24 : x34_16 = true
        ·
         subst c24
         have H1 : (some (t270, t273, 0, 0, (⟨#[]⟩ : ByteArray), false)) = some (r1, r2, r3, r4, r5, r6) := by rw [if_pos rfl] at H; exact H
         clear H
         have H := H1
         clear H1
         simp only [Option.some.injEq, Prod.mk.injEq] at H
         obtain ⟨rfl, rfl, rfl, rfl, rfl, rfl⟩ := H
         have hnb25 := NB267_266.out
         have hnc25 := NB266_267.out
         obtain ⟨hcz26_0, hcz26_1, hcz26_2, hcz26_3, hcz26_4, hfz26_0, hfz26_1, hfz26_2, hfz26_3, hfz26_4⟩ := blk5 BK267.out
         obtain ⟨hcz27_0, hcz27_1, hcz27_2, hcz27_3, hcz27_4, hfz27_0, hfz27_1, hfz27_2, hfz27_3, hfz27_4⟩ := blk5 BK266.out
         go_wp2
         refine bodyPost_ret (results_ct rfl _ _ gb266 42 #[.int .i64 t270, .int .i64 t273, .int .i64 0, .int .i64 0, .string (⟨#[]⟩ : ByteArray)] (0, 0) _ rfl (by exact obk (blk_put (obk (blk_put (obk (blk_put (obk (blk_put (obk (blk_put (obk BK266.out) 0 _ rfl)) 1 _ rfl)) 2 _ rfl)) 3 _ rfl)) 4 _ rfl)) Tryd.underlying42 rfl (by kernel_rfl)) rfl ?_
         exact ⟨by first | rfl | (simp [*, errW_none, errW_some] <;> rfl) | (simp [errW_none, errW_some]; exact isEmpty_ne _), by exact bok HB.out⟩
        ·
         replace c24 := Bool.eq_false_iff.mpr c24
         subst c24
         have H1 : (if (l0.length : Int) = 3 then (some (t270, t273, 0, 0, (⟨#[]⟩ : ByteArray), true)) else (if (l0.length : Int) = 4 then (if 3 < (l0.length : Int) then (remontoirref17_flow.j2 kj16 l0 ((rdOf ByteArray.empty l0 3).toList == ([100, 101, 102, 97, 117, 108, 116] : List UInt8)) t270 t273 0 0 (⟨#[]⟩ : ByteArray)) else (none)) else (remontoirref17_flow.j2 kj16 l0 false t270 t273 0 0 (⟨#[]⟩ : ByteArray)))) = some (r1, r2, r3, r4, r5, r6) := by rw [if_neg (show ¬ (false = true) by decide)] at H; exact H
         clear H
         have H := H1
         clear H1
         by_cases c28 : (l0.length : Int) = 3
         ·
          rw [if_pos c28] at H
          have c28b0 : ((l0.length : Int) == 3) = true := beq_iff_eq.mpr c28
          have c28b1 : ((l0.length : Int) != 3) = false := bne_eq_false_iff_eq.mpr c28
          clear c28
          simp only [Option.some.injEq, Prod.mk.injEq] at H
          obtain ⟨rfl, rfl, rfl, rfl, rfl, rfl⟩ := H
          have hnb29 := NB267_266.out
          have hnc29 := NB266_267.out
          obtain ⟨hcz30_0, hcz30_1, hcz30_2, hcz30_3, hcz30_4, hfz30_0, hfz30_1, hfz30_2, hfz30_3, hfz30_4⟩ := blk5 BK267.out
          obtain ⟨hcz31_0, hcz31_1, hcz31_2, hcz31_3, hcz31_4, hfz31_0, hfz31_1, hfz31_2, hfz31_3, hfz31_4⟩ := blk5 BK266.out
          go_wp2
          refine bodyPost_ret (results_ct rfl _ _ gb266 42 #[.int .i64 t270, .int .i64 t273, .int .i64 0, .int .i64 0, .string (⟨#[]⟩ : ByteArray)] (0, 0) _ rfl (by exact obk (blk_put (obk (blk_put (obk (blk_put (obk (blk_put (obk (blk_put (obk BK266.out) 0 _ rfl)) 1 _ rfl)) 2 _ rfl)) 3 _ rfl)) 4 _ rfl)) Tryd.underlying42 rfl (by kernel_rfl)) rfl ?_
          exact ⟨by first | rfl | (simp [*, errW_none, errW_some] <;> rfl) | (simp [errW_none, errW_some]; exact isEmpty_ne _), by exact bok HB.out⟩
         ·
          rw [if_neg c28] at H
          have c28b0 : ((l0.length : Int) == 3) = false := beq_eq_false_iff_ne.mpr c28
          have c28b1 : ((l0.length : Int) != 3) = true := bne_iff_ne.mpr c28
          have HC32 := mk0 H
          clear H
          go_upto_region 11 with (fail)
          go_cut [47] (fun v47 wc => ∃ (kq : Nat) (x47_31 : Bool), v47 = .bool x47_31 ∧ Aside0 (remontoirref17_flow.j2 kq l0 x47_31 t270 t273 0 0 (⟨#[]⟩ : ByteArray) = some (r1, r2, r3, r4, r5, r6)) ∧ Aside0 (kq ≤ kj16) ∧ Aside0 (wc.heap[gb266]? = some (.cells #[.int .i64 0, .int .i64 0, .int .i64 0, .int .i64 0, .string (⟨#[]⟩ : ByteArray)] 42 (0, 0))) ∧ Aside0 (wc.heap[gb267]? = some (.cells #[.int .i64 t270, .int .i64 t273, .int .i64 0, .int .i64 0, .string (⟨#[]⟩ : ByteArray)] 42 (0, 0))) ∧ Aside0 (Below w.heap.size w wc))
          case first =>
           have H := HC32.out
           clear HC32
           by_cases c33 : (l0.length : Int) = 4
           ·
            rw [if_pos c33] at H
            have c33b0 : ((l0.length : Int) == 4) = true := beq_iff_eq.mpr c33
            have c33b1 : ((l0.length : Int) != 4) = false := bne_eq_false_iff_eq.mpr c33
            clear c33
            (first | rw [c33b0] | (simp only [i64_w, i32_w]; rw [c33b0]) | skip)
            by_cases c34 : 3 < (l0.length : Int)
            ·
             rw [if_pos c34] at H
             have c34b0 : decide (3 < (l0.length : Int)) = true := decide_eq_true c34
             have c34b1 : decide (3 < l0.length) = true := decide_eq_true (by omega)
             clear c34
             have H' := mk0 H
             clear H
             have p275 : 0 ≤ (3 : Int) := (by omega)
             have q275 : 3 < (l0.length : Int) := of_decide_eq_true (by assumption)
             obtain ⟨ad275, e275, hx275_0⟩ := Kd.at_string HR0.out 3 p275 q275
             obtain rfl : ad269 = ad275 := (by injection e275)
             (try simp only [show (3 : Int).toNat = 3 from rfl, Nat.reduceMul, Nat.reduceEqDiff, Go.Addr.add, ↓reduceIte] at hx275_0)
             have qi275 : (3 < l0.length) = True := eq_true (by omega)
             (try rw [show ((3 : Int)).toNat = 3 from rfl] at hx275_0)
             replace hx275_0 := (HB.out.cell (World.block_lt_of_cell? w _ hx275_0)).trans hx275_0
             replace p275 := eq_true p275
             replace q275 := eq_true q275
             go_wp2
             go_meet
             case rel => exact ⟨_, (((rdOf ByteArray.empty l0 3).toList == ([100, 101, 102, 97, 117, 108, 116] : List UInt8))), (by first | rfl | (simp; done) | (simp [*]; done)), H', ⟨by have := HJ1.out; have := HJ16.out; first | omega | exact Nat.le_refl _⟩, ⟨by exact obk BK266.out⟩, ⟨by exact obk BK267.out⟩, ⟨by exact bok HB.out⟩⟩
            ·
             rw [if_neg c34] at H
             exact absurd H (by simp)
           ·
            rw [if_neg c33] at H
            have c33b0 : ((l0.length : Int) == 4) = false := beq_eq_false_iff_ne.mpr c33
            have c33b1 : ((l0.length : Int) != 4) = true := bne_iff_ne.mpr c33
            (first | rw [c33b0] | (simp only [i64_w, i32_w]; rw [c33b0]) | skip)
            have H' := mk0 H
            clear H
            go_wp2
            go_meet
            case rel => exact ⟨_, (false), (by first | rfl | (simp; done) | (simp [*]; done)), H', ⟨by have := HJ1.out; have := HJ16.out; first | omega | exact Nat.le_refl _⟩, ⟨by exact obk BK266.out⟩, ⟨by exact obk BK267.out⟩, ⟨by exact bok HB.out⟩⟩
          case rest =>
           clear HC32
           try clear c1
           try clear c2
           try clear p2
           try clear q2
           try clear hx2
           try clear qi2
           try clear c3
           try clear c4
           try clear c5
           try clear c7
           try clear c7b0
           try clear c7b1
           try clear c8
           try clear c8b0
           try clear c8b1
           try clear c9
           try clear c10
           try clear c13
           try clear c13b0
           try clear c13b1
           try clear c15
           try clear c15b0
           try clear c15b1
           try clear c19
           try clear c23
           try clear c24
           try clear c25
           try clear p26
           try clear q26
           try clear hx26
           try clear qi26
           try clear p27
           try clear q27
           try clear hx27
           try clear qi27
           try clear c28
           try clear c28b0
           try clear c28b1
           try clear c29
           try clear c33
           try clear c33b0
           try clear c33b1
           try clear c34
           try clear c34b0
           try clear c34b1
           try clear hx268_0
           try clear hx269_0
           try clear hx272_0
           try clear hx275_0
           try clear p2
           try clear p268
           try clear p269
           try clear p272
           try clear p275
           try clear q2
           try clear q268
           try clear q269
           try clear q272
           try clear q275
           obtain ⟨kq, x47_31, rfl, HA, HJ31, BK266, BK267, HB⟩ := hcut
           cases kq with
           | zero => exact absurd HA.out (by simp [remontoirref17_flow.j2])
           | succ kj31 =>
            have H := HA.out
            clear HA
            simp only [remontoirref17_flow.j2] at H
            by_cases c35 : x47_31 = true
            ·
             subst c35
             have H1 : (some (t270, t273, 1, 0, (⟨#[]⟩ : ByteArray), true)) = some (r1, r2, r3, r4, r5, r6) := by rw [if_pos rfl] at H; exact H
             clear H
             have H := H1
             clear H1
             simp only [Option.some.injEq, Prod.mk.injEq] at H
             obtain ⟨rfl, rfl, rfl, rfl, rfl, rfl⟩ := H
             have hnb36 := NB267_266.out
             have hnc36 := NB266_267.out
             obtain ⟨hcz37_0, hcz37_1, hcz37_2, hcz37_3, hcz37_4, hfz37_0, hfz37_1, hfz37_2, hfz37_3, hfz37_4⟩ := blk5 BK267.out
             obtain ⟨hcz38_0, hcz38_1, hcz38_2, hcz38_3, hcz38_4, hfz38_0, hfz38_1, hfz38_2, hfz38_3, hfz38_4⟩ := blk5 BK266.out
             go_wp2
             refine bodyPost_ret (results_ct rfl _ _ gb266 42 #[.int .i64 t270, .int .i64 t273, .int .i64 1, .int .i64 0, .string (⟨#[]⟩ : ByteArray)] (0, 0) _ rfl (by exact obk (blk_put (obk (blk_put (obk (blk_put (obk (blk_put (obk (blk_put (obk (blkf (obk BK266.out) NB266_267.out)) 0 _ rfl)) 1 _ rfl)) 2 _ rfl)) 3 _ rfl)) 4 _ rfl)) Tryd.underlying42 rfl (by kernel_rfl)) rfl ?_
             exact ⟨by first | rfl | (simp [*, errW_none, errW_some] <;> rfl) | (simp [errW_none, errW_some]; exact isEmpty_ne _), by exact bok HB.out⟩
            ·
             replace c35 := Bool.eq_false_iff.mpr c35
             subst c35
             have H1 : (if (l0.length : Int) ≥ 5 then (if 3 < (l0.length : Int) then (remontoirref17_flow.j3 kj31 l0 ((rdOf ByteArray.empty l0 3).toList == ([105, 102] : List UInt8)) t270 t273 0 0 (⟨#[]⟩ : ByteArray)) else (none)) else (remontoirref17_flow.j3 kj31 l0 false t270 t273 0 0 (⟨#[]⟩ : ByteArray))) = some (r1, r2, r3, r4, r5, r6) := by rw [if_neg (show ¬ (false = true) by decide)] at H; exact H
             clear H
             have H := H1
             clear H1
             have HC39 := mk0 H
             clear H
             go_upto_region 14 with (fail)
             go_cut [59] (fun v59 wc => ∃ (kq : Nat) (x59_38 : Bool), v59 = .bool x59_38 ∧ Aside0 (remontoirref17_flow.j3 kq l0 x59_38 t270 t273 0 0 (⟨#[]⟩ : ByteArray) = some (r1, r2, r3, r4, r5, r6)) ∧ Aside0 (kq ≤ kj31) ∧ Aside0 (wc.heap[gb266]? = some (.cells #[.int .i64 0, .int .i64 0, .int .i64 0, .int .i64 0, .string (⟨#[]⟩ : ByteArray)] 42 (0, 0))) ∧ Aside0 (wc.heap[gb267]? = some (.cells #[.int .i64 t270, .int .i64 t273, .int .i64 0, .int .i64 0, .string (⟨#[]⟩ : ByteArray)] 42 (0, 0))) ∧ Aside0 (Below w.heap.size w wc))
             case first =>
              have H := HC39.out
              clear HC39
              by_cases c40 : (l0.length : Int) ≥ 5
              ·
               rw [if_pos c40] at H
               have c40b0 : decide (5 ≤ (l0.length : Int)) = true := decide_eq_true c40
               have c40b1 : decide (5 ≤ l0.length) = true := decide_eq_true (by omega)
               clear c40
               (first | rw [c40b0] | (simp only [i64_w, i32_w]; rw [c40b0]) | skip)
               by_cases c41 : 3 < (l0.length : Int)
               ·
                rw [if_pos c41] at H
                have c41b0 : decide (3 < (l0.length : Int)) = true := decide_eq_true c41
                have c41b1 : decide (3 < l0.length) = true := decide_eq_true (by omega)
                clear c41
                have H' := mk0 H
                clear H
                have p276 : 0 ≤ (3 : Int) := (by omega)
                have q276 : 3 < (l0.length : Int) := of_decide_eq_true (by assumption)
                obtain ⟨ad276, e276, hx276_0⟩ := Kd.at_string HR0.out 3 p276 q276
                obtain rfl : ad269 = ad276 := (by injection e276)
                (try simp only [show (3 : Int).toNat = 3 from rfl, Nat.reduceMul, Nat.reduceEqDiff, Go.Addr.add, ↓reduceIte] at hx276_0)
                have qi276 : (3 < l0.length) = True := eq_true (by omega)
                (try rw [show ((3 : Int)).toNat = 3 from rfl] at hx276_0)
                replace hx276_0 := (HB.out.cell (World.block_lt_of_cell? w _ hx276_0)).trans hx276_0
                replace p276 := eq_true p276
                replace q276 := eq_true q276
                go_wp2
                go_meet
                case rel => exact ⟨_, (((rdOf ByteArray.empty l0 3).toList == ([105, 102] : List UInt8))), (by first | rfl | (simp; done) | (simp [*]; done)), H', ⟨by have := HJ1.out; have := HJ16.out; have := HJ31.out; first | omega | exact Nat.le_refl _⟩, ⟨by exact obk BK266.out⟩, ⟨by exact obk BK267.out⟩, ⟨by exact bok HB.out⟩⟩
               ·
                rw [if_neg c41] at H
                exact absurd H (by simp)
              ·
               rw [if_neg c40] at H
               have c40b0 : decide (5 ≤ (l0.length : Int)) = false := decide_eq_false c40
               have c40b1 : decide (5 ≤ l0.length) = false := decide_eq_false (by omega)
               clear c40
               (first | rw [c40b0] | (simp only [i64_w, i32_w]; rw [c40b0]) | skip)
               have H' := mk0 H
               clear H
               go_wp2
               go_meet
               case rel => exact ⟨_, (false), (by first | rfl | (simp; done) | (simp [*]; done)), H', ⟨by have := HJ1.out; have := HJ16.out; have := HJ31.out; first | omega | exact Nat.le_refl _⟩, ⟨by exact obk BK266.out⟩, ⟨by exact obk BK267.out⟩, ⟨by exact bok HB.out⟩⟩
             case rest =>
              clear HC39
              try clear c1
              try clear c2
              try clear p2
              try clear q2
              try clear hx2
              try clear qi2
              try clear c3
              try clear c4
              try clear c5
              try clear c7
              try clear c7b0
              try clear c7b1
              try clear c8
              try clear c8b0
              try clear c8b1
              try clear c9
              try clear c10
              try clear c13
              try clear c13b0
              try clear c13b1
              try clear c15
              try clear c15b0
              try clear c15b1
              try clear c19
              try clear c23
              try clear c24
              try clear c25
              try clear p26
              try clear q26
              try clear hx26
              try clear qi26
              try clear p27
              try clear q27
              try clear hx27
              try clear qi27
              try clear c28
              try clear c28b0
              try clear c28b1
              try clear c29
              try clear c33
              try clear c33b0
              try clear c33b1
              try clear c34
              try clear c34b0
              try clear c34b1
              try clear c35
              try clear c36
              try clear c40
              try clear c40b0
              try clear c40b1
              try clear c41
              try clear c41b0
              try clear c41b1
              try clear hx268_0
              try clear hx269_0
              try clear hx272_0
              try clear hx275_0
              try clear hx276_0
              try clear p2
              try clear p26
              try clear p268
              try clear p269
              try clear p27
              try clear p272
              try clear p275
              try clear p276
              try clear q2
              try clear q26
              try clear q268
              try clear q269
              try clear q27
              try clear q272
              try clear q275
              try clear q276
              obtain ⟨kq, x59_38, rfl, HA, HJ38, BK266, BK267, HB⟩ := hcut
              cases kq with
              | zero => exact absurd HA.out (by simp [remontoirref17_flow.j3])
              | succ kj38 =>
               have H := HA.out
               clear HA
               simp only [remontoirref17_flow.j3] at H
               by_cases c42 : x59_38 = true
               ·
                subst c42
                have H1 : (if 4 ≤ (l0.length : Int) then ((remontoirref17_rest.f kj38 (l0.drop 4)).bind fun t278 => (some (t270, t273, 2, 0, t278, (t278.toList != ([] : List UInt8))))) else (none)) = some (r1, r2, r3, r4, r5, r6) := by rw [if_pos rfl] at H; exact H
                clear H
                have H := H1
                clear H1
                by_cases c43 : 4 ≤ (l0.length : Int)
                ·
                 rw [if_pos c43] at H
                 have c43b0 := eq_true c43
                 have c43b1 : decide (4 ≤ (l0.length : Int)) = true := decide_eq_true c43
                 clear c43
                 replace H := Option.bind_eq_some_iff.mp H
                 obtain ⟨t278, A440, H⟩ := H
                 replace H : (some (t270, t273, 2, 0, t278, (t278.toList != ([] : List UInt8)))) = some (r1, r2, r3, r4, r5, r6) := H
                 have A44 := mk0 A440
                 clear A440
                 simp only [Option.some.injEq, Prod.mk.injEq] at H
                 obtain ⟨rfl, rfl, rfl, rfl, rfl, rfl⟩ := H
                 obtain ⟨i045, hi045, _, hsz45, _⟩ := info_parts info9
                 obtain ⟨A45, hcut45, hA45, hC45⟩ := print_drop_of (P := Tryd.prog) Value.string (⟨#[]⟩ : ByteArray) 34 9 .i64 Tryd.underlying34 hi045 hsz45 (some ad269) c0 l0 4 (by omega) (of_decide_eq_true (by assumption)) HC0.out
                 have HR277 := mk0 (Kd.C_of_reads (h1 := fun _ => rfl) (hA45 _ (Kd.reads_of_C HR0.out)))
                 have HC277 := mk0 hC45
                 clear hA45 hC45 hi045 hsz45
                 try go_wp2_with (first | ((with_reducible refine gate_callee (f := 49) rfl ?_); refine goesL_ (some 71) rfl rfl Tryd.func49 (by kernel_rfl) rfl #[.slice A45 (l0.drop 4).length (c0 - 4)] rfl (by (try simp only [List.map_toArray, List.map_cons, List.map_nil]); first | done | (rw [show (l0.drop 4).length = (l0.length - 4) from List.length_drop] <;> rfl) | rfl | (simp only [List.length_drop, List.length_take]; rfl)) ?_; (with_reducible refine (remontoirref17_rest.calls kj38 _ _ (l0.drop 4) t278 _ ?side1 ?side2 A44.out).mono ?_); (case side1 => repeat (first | exact (Kd.C_below HR277.out HB.out) | (with_reducible refine Kd.C_alloc ?_ _) | (with_reducible refine Kd.C_drewN ?_ _) | (with_reducible refine Kd.C_drew ?_))); (case side2 => exact HC277.out); rintro e w' ⟨rfl, ⟨nd, rfl⟩⟩; refine ⟨_, rfl, ?_⟩; (try (rw [drewN_self wc]; generalize hq_ : World.drewN wc _ = wc; have n0_ : Aside0 (wc.heap[gb266]? = some (.cells #[.int .i64 0, .int .i64 0, .int .i64 0, .int .i64 0, .string (⟨#[]⟩ : ByteArray)] 42 (0, 0))) := ⟨by rw [← hq_]; exact (by exact obk BK266.out)⟩; have n1_ : Aside0 (wc.heap[gb267]? = some (.cells #[.int .i64 t270, .int .i64 t273, .int .i64 0, .int .i64 0, .string (⟨#[]⟩ : ByteArray)] 42 (0, 0))) := ⟨by rw [← hq_]; exact (by exact obk BK267.out)⟩; have n2_ : Aside0 (Below w.heap.size w wc) := ⟨by rw [← hq_]; exact (by exact bok HB.out)⟩; clear BK266 BK267 HB hq_; have BK266 := n0_; have BK267 := n1_; have HB := n2_; clear n0_ n1_ n2_)); have hnb46 := NB267_266.out; have hnc46 := NB266_267.out; obtain ⟨hcz47_0, hcz47_1, hcz47_2, hcz47_3, hcz47_4, hfz47_0, hfz47_1, hfz47_2, hfz47_3, hfz47_4⟩ := blk5 BK267.out))
                 have n0_ : Aside0 (((wc.setCell ⟨gb267, 2, none⟩ (.int .i64 2)).setCell ⟨gb267, 4, none⟩ (.string t278)).heap[gb266]? = some (.cells #[.int .i64 0, .int .i64 0, .int .i64 0, .int .i64 0, .string (⟨#[]⟩ : ByteArray)] 42 (0, 0))) := ⟨by refine obk ?_; refine blk_far ?_ NB266_267.out _; refine obk ?_; refine blk_far ?_ NB266_267.out _; exact obk BK266.out⟩
                 have n1_ : Aside0 (((wc.setCell ⟨gb267, 2, none⟩ (.int .i64 2)).setCell ⟨gb267, 4, none⟩ (.string t278)).heap[gb267]? = some (.cells #[.int .i64 t270, .int .i64 t273, .int .i64 2, .int .i64 0, .string t278] 42 (0, 0))) := ⟨by refine obk ?_; refine blk_put (cs := #[.int .i64 t270, .int .i64 t273, .int .i64 2, .int .i64 0, .string (⟨#[]⟩ : ByteArray)]) ?_ 4 _ rfl; refine obk ?_; refine blk_put (cs := #[.int .i64 t270, .int .i64 t273, .int .i64 0, .int .i64 0, .string (⟨#[]⟩ : ByteArray)]) ?_ 2 _ rfl; exact obk BK267.out⟩
                 have n2_ : Aside0 (Below w.heap.size w ((wc.setCell ⟨gb267, 2, none⟩ (.int .i64 2)).setCell ⟨gb267, 4, none⟩ (.string t278))) := ⟨by exact bok HB.out⟩
                 (try clear BK266)
                 (try clear BK267)
                 (try clear HB)
                 generalize ((wc.setCell ⟨gb267, 2, none⟩ (.int .i64 2)).setCell ⟨gb267, 4, none⟩ (.string t278)) = w48 at n0_ n1_ n2_ ⊢
                 have BK266 := n0_
                 have BK267 := n1_
                 have HB := n2_
                 clear n0_ n1_ n2_
                 have n0_ := mk0 (blk_drew BK266.out)
                 have n1_ := mk0 (blk_drew BK267.out)
                 have n2_ := mk0 (below_drew1 HB.out)
                 clear BK266
                 clear BK267
                 clear HB
                 have BK266 := n0_
                 have BK267 := n1_
                 have HB := n2_
                 clear n0_ n1_ n2_
                 refine start_ (n := 6) (S := fun w' => w'.cell? ⟨gb267, 0, none⟩ = some (.int .i64 t270) ∧ w'.cell? ⟨gb267, 1, none⟩ = some (.int .i64 t273) ∧ w'.cell? ⟨gb267, 2, none⟩ = some (.int .i64 2) ∧ w'.cell? ⟨gb267, 3, none⟩ = some (.int .i64 0) ∧ w'.cell? ⟨gb267, 4, none⟩ = some (.string t278)) (ds := []) #[false, false, false, false, false, false] (by kernel_rfl) rfl rfl ⟨(blk_cell BK267.out 0).trans rfl, (blk_cell BK267.out 1).trans rfl, (blk_cell BK267.out 2).trans rfl, (blk_cell BK267.out 3).trans rfl, (blk_cell BK267.out 4).trans rfl⟩ (fun hHeld => ?_)
                 generalize w48.drew = w49 at BK266 BK267 HB hHeld ⊢
                 refine pure_ (i := 1) (N := some 75) (v := ?_) (a' := ?_) #[false, true, false, false, false, false] rfl rfl (by kernel_rfl) (fun _ _ _ h => h) (Or.inl ⟨by rfl, ?_⟩) ?_ ?_
                 rotate_left
                 ·
                  intro w'
                  go_simp
                  with_reducible rfl
                 rotate_left
                 ·
                  simp only [Act.put, List.setIfInBounds_toArray, List.set_cons_zero, List.set_cons_succ, i64_w, i32_w]
                  rfl
                 refine take_ (i := 0) (N := some 74) (v := ?_) (a' := ?_) #[true, true, false, false, false, false] rfl rfl (by kernel_rfl) (fun _ _ _ h => h) (Or.inl ⟨by rfl, ?_⟩) hHeld ?_ ?_
                 rotate_left
                 ·
                  rintro w' ⟨s0, s1, s2, s3, s4⟩
                  go_simp
                  with_reducible rfl
                 rotate_left
                 ·
                  simp only [Act.put, List.setIfInBounds_toArray, List.set_cons_zero, List.set_cons_succ, i64_w, i32_w]
                  rfl
                 refine take_ (i := 2) (N := some 76) (v := ?_) (a' := ?_) #[true, true, true, false, false, false] rfl rfl (by kernel_rfl) (fun _ _ _ h => h) (Or.inl ⟨by rfl, ?_⟩) hHeld ?_ ?_
                 rotate_left
                 ·
                  rintro w' ⟨s0, s1, s2, s3, s4⟩
                  go_simp
                  with_reducible rfl
                 rotate_left
                 ·
                  simp only [Act.put, List.setIfInBounds_toArray, List.set_cons_zero, List.set_cons_succ, i64_w, i32_w]
                  rfl
                 refine pure_ (i := 3) (N := some 77) (v := ?_) (a' := ?_) #[true, true, true, true, false, false] rfl rfl (by kernel_rfl) (fun _ _ _ h => h) (Or.inl ⟨by rfl, ?_⟩) ?_ ?_
                 rotate_left
                 ·
                  intro w'
                  go_simp
                  with_reducible rfl
                 rotate_left
                 ·
                  simp only [Act.put, List.setIfInBounds_toArray, List.set_cons_zero, List.set_cons_succ, i64_w, i32_w]
                  rfl
                 refine one_ (i := 4) (N := none) #[true, true, true, true, true, false] rfl rfl (by kernel_rfl) (by decide) (fun K hK => ?_)
                 have hs50 : w49.cell? ⟨gb266, 0, none⟩ = some (.int .i64 0) := (blk_cell BK266.out 0).trans rfl
                 have hfs50 := blk_frozen BK266.out 0
                 have hns50_1 := NB267_266.out
                 have hms50_1 := NB266_267.out
                 have hs51 : w49.cell? ⟨gb266, 1, none⟩ = some (.int .i64 0) := (blk_cell BK266.out 1).trans rfl
                 have hfs51 := blk_frozen BK266.out 1
                 have hns51_1 := NB267_266.out
                 have hms51_1 := NB266_267.out
                 have hs52 : w49.cell? ⟨gb266, 2, none⟩ = some (.int .i64 0) := (blk_cell BK266.out 2).trans rfl
                 have hfs52 := blk_frozen BK266.out 2
                 have hns52_1 := NB267_266.out
                 have hms52_1 := NB266_267.out
                 have hs53 : w49.cell? ⟨gb266, 3, none⟩ = some (.int .i64 0) := (blk_cell BK266.out 3).trans rfl
                 have hfs53 := blk_frozen BK266.out 3
                 have hns53_1 := NB267_266.out
                 have hms53_1 := NB266_267.out
                 have hs54 : w49.cell? ⟨gb266, 4, none⟩ = some (.string (⟨#[]⟩ : ByteArray)) := (blk_cell BK266.out 4).trans rfl
                 have hfs54 := blk_frozen BK266.out 4
                 have hns54_1 := NB267_266.out
                 have hms54_1 := NB266_267.out
                 refine skip_ (w1 := ?_) (by rfl) rfl ?_ ?_
                 rotate_left
                 ·
                  go_simp
                  rfl
                 refine hK.out _ _ ⟨((cell_far (p := ⟨gb266, _, none⟩) NB267_266.out _).trans (((cell_far (p := ⟨gb266, _, none⟩) NB267_266.out _).trans (((cell_far (p := ⟨gb266, _, none⟩) NB267_266.out _).trans (((cell_far (p := ⟨gb266, _, none⟩) NB267_266.out _).trans (((cell_far (p := ⟨gb266, _, none⟩) NB267_266.out _).trans (hHeld.1)))))))))), ((cell_far (p := ⟨gb266, _, none⟩) NB267_266.out _).trans (((cell_far (p := ⟨gb266, _, none⟩) NB267_266.out _).trans (((cell_far (p := ⟨gb266, _, none⟩) NB267_266.out _).trans (((cell_far (p := ⟨gb266, _, none⟩) NB267_266.out _).trans (((cell_far (p := ⟨gb266, _, none⟩) NB267_266.out _).trans (hHeld.2.1)))))))))), ((cell_far (p := ⟨gb266, _, none⟩) NB267_266.out _).trans (((cell_far (p := ⟨gb266, _, none⟩) NB267_266.out _).trans (((cell_far (p := ⟨gb266, _, none⟩) NB267_266.out _).trans (((cell_far (p := ⟨gb266, _, none⟩) NB267_266.out _).trans (((cell_far (p := ⟨gb266, _, none⟩) NB267_266.out _).trans (hHeld.2.2.1)))))))))), ((cell_far (p := ⟨gb266, _, none⟩) NB267_266.out _).trans (((cell_far (p := ⟨gb266, _, none⟩) NB267_266.out _).trans (((cell_far (p := ⟨gb266, _, none⟩) NB267_266.out _).trans (((cell_far (p := ⟨gb266, _, none⟩) NB267_266.out _).trans (((cell_far (p := ⟨gb266, _, none⟩) NB267_266.out _).trans (hHeld.2.2.2.1)))))))))), ((cell_far (p := ⟨gb266, _, none⟩) NB267_266.out _).trans (((cell_far (p := ⟨gb266, _, none⟩) NB267_266.out _).trans (((cell_far (p := ⟨gb266, _, none⟩) NB267_266.out _).trans (((cell_far (p := ⟨gb266, _, none⟩) NB267_266.out _).trans (((cell_far (p := ⟨gb266, _, none⟩) NB267_266.out _).trans (hHeld.2.2.2.2))))))))))⟩ (fun hHeld => ?_)
                 clear hK K
                 refine pure_ (i := 5) (N := some 3) (v := ?_) (a' := ?_) #[true, true, true, true, true, true] rfl rfl (by kernel_rfl) (fun _ _ _ h => h) (Or.inl ⟨by rfl, ?_⟩) ?_ ?_
                 rotate_left
                 ·
                  intro w'
                  go_simp
                  with_reducible rfl
                 rotate_left
                 ·
                  simp only [Act.put, List.setIfInBounds_toArray, List.set_cons_zero, List.set_cons_succ, i64_w, i32_w]
                  rfl
                 refine done_ (by kernel_rfl) ?_
                 try go_wp2
                 refine bodyPost_ret (results_ct rfl _ _ gb266 42 #[.int .i64 t270, .int .i64 t273, .int .i64 2, .int .i64 0, .string t278] (0, 0) _ rfl (by exact obk (blk_put (obk (blk_put (obk (blk_put (obk (blk_put (obk (blk_put (obk BK266.out) 0 _ rfl)) 1 _ rfl)) 2 _ rfl)) 3 _ rfl)) 4 _ rfl)) Tryd.underlying42 rfl (by kernel_rfl)) rfl ?_
                 exact ⟨by first | rfl | (simp [*, errW_none, errW_some] <;> rfl) | (simp [errW_none, errW_some]; exact isEmpty_ne _), by exact bok HB.out⟩
                ·
                 rw [if_neg c43] at H
                 exact absurd H (by simp)
               ·
                replace c42 := Bool.eq_false_iff.mpr c42
                subst c42
                have H1 : (if (l0.length : Int) ≥ 7 then (if 3 < (l0.length : Int) then (if (rdOf ByteArray.empty l0 3).toList = ([97, 103, 97, 105, 110] : List UInt8) then (if 5 < (l0.length : Int) then (remontoirref17_flow.j4 kj38 l0 ((rdOf ByteArray.empty l0 5).toList == ([105, 102] : List UInt8)) t270 t273 0 0 (⟨#[]⟩ : ByteArray)) else (none)) else (remontoirref17_flow.j4 kj38 l0 false t270 t273 0 0 (⟨#[]⟩ : ByteArray))) else (none)) else (remontoirref17_flow.j4 kj38 l0 false t270 t273 0 0 (⟨#[]⟩ : ByteArray))) = some (r1, r2, r3, r4, r5, r6) := by rw [if_neg (show ¬ (false = true) by decide)] at H; exact H
                clear H
                have H := H1
                clear H1
                have HC55 := mk0 H
                clear H
                go_upto_region 17 with (fail)
                go_cut [78] (fun v78 wc => ∃ (kq : Nat) (x78_54 : Bool), v78 = .bool x78_54 ∧ Aside0 (remontoirref17_flow.j4 kq l0 x78_54 t270 t273 0 0 (⟨#[]⟩ : ByteArray) = some (r1, r2, r3, r4, r5, r6)) ∧ Aside0 (kq ≤ kj38) ∧ Aside0 (wc.heap[gb266]? = some (.cells #[.int .i64 0, .int .i64 0, .int .i64 0, .int .i64 0, .string (⟨#[]⟩ : ByteArray)] 42 (0, 0))) ∧ Aside0 (wc.heap[gb267]? = some (.cells #[.int .i64 t270, .int .i64 t273, .int .i64 0, .int .i64 0, .string (⟨#[]⟩ : ByteArray)] 42 (0, 0))) ∧ Aside0 (Below w.heap.size w wc))
                case first =>
                 have H := HC55.out
                 clear HC55
                 by_cases c56 : (l0.length : Int) ≥ 7
                 ·
                  rw [if_pos c56] at H
                  have c56b0 : decide (7 ≤ (l0.length : Int)) = true := decide_eq_true c56
                  have c56b1 : decide (7 ≤ l0.length) = true := decide_eq_true (by omega)
                  clear c56
                  (first | rw [c56b0] | (simp only [i64_w, i32_w]; rw [c56b0]) | skip)
                  by_cases c57 : 3 < (l0.length : Int)
                  ·
                   rw [if_pos c57] at H
                   have c57b0 : decide (3 < (l0.length : Int)) = true := decide_eq_true c57
                   have c57b1 : decide (3 < l0.length) = true := decide_eq_true (by omega)
                   clear c57
                   by_cases c58 : (rdOf ByteArray.empty l0 3).toList = ([97, 103, 97, 105, 110] : List UInt8)
                   ·
                    rw [if_pos c58] at H
                    have c58b0 : ((rdOf ByteArray.empty l0 3).toList == ([97, 103, 97, 105, 110] : List UInt8)) = true := beq_iff_eq.mpr c58
                    have c58b1 : ((rdOf ByteArray.empty l0 3).toList != ([97, 103, 97, 105, 110] : List UInt8)) = false := bne_eq_false_iff_eq.mpr c58
                    clear c58
                    by_cases c59 : 5 < (l0.length : Int)
                    ·
                     rw [if_pos c59] at H
                     have c59b0 : decide (5 < (l0.length : Int)) = true := decide_eq_true c59
                     have c59b1 : decide (5 < l0.length) = true := decide_eq_true (by omega)
                     clear c59
                     have H' := mk0 H
                     clear H
                     have p279 : 0 ≤ (3 : Int) := (by omega)
                     have q279 : 3 < (l0.length : Int) := of_decide_eq_true (by assumption)
                     obtain ⟨ad279, e279, hx279_0⟩ := Kd.at_string HR0.out 3 p279 q279
                     obtain rfl : ad269 = ad279 := (by injection e279)
                     (try simp only [show (3 : Int).toNat = 3 from rfl, Nat.reduceMul, Nat.reduceEqDiff, Go.Addr.add, ↓reduceIte] at hx279_0)
                     have qi279 : (3 < l0.length) = True := eq_true (by omega)
                     (try rw [show ((3 : Int)).toNat = 3 from rfl] at hx279_0)
                     replace hx279_0 := (HB.out.cell (World.block_lt_of_cell? w _ hx279_0)).trans hx279_0
                     replace p279 := eq_true p279
                     replace q279 := eq_true q279
                     have p280 : 0 ≤ (5 : Int) := (by omega)
                     have q280 : 5 < (l0.length : Int) := of_decide_eq_true (by assumption)
                     obtain ⟨ad280, e280, hx280_0⟩ := Kd.at_string HR0.out 5 p280 q280
                     obtain rfl : ad269 = ad280 := (by injection e280)
                     (try simp only [show (5 : Int).toNat = 5 from rfl, Nat.reduceMul, Nat.reduceEqDiff, Go.Addr.add, ↓reduceIte] at hx280_0)
                     have qi280 : (5 < l0.length) = True := eq_true (by omega)
                     (try rw [show ((5 : Int)).toNat = 5 from rfl] at hx280_0)
                     replace hx280_0 := (HB.out.cell (World.block_lt_of_cell? w _ hx280_0)).trans hx280_0
                     replace p280 := eq_true p280
                     replace q280 := eq_true q280
                     go_wp2
                     go_meet
                     case rel => exact ⟨_, (((rdOf ByteArray.empty l0 5).toList == ([105, 102] : List UInt8))), (by first | rfl | (simp; done) | (simp [*]; done)), H', ⟨by have := HJ1.out; have := HJ16.out; have := HJ31.out; have := HJ38.out; first | omega | exact Nat.le_refl _⟩, ⟨by exact obk BK266.out⟩, ⟨by exact obk BK267.out⟩, ⟨by exact bok HB.out⟩⟩
                    ·
                     rw [if_neg c59] at H
                     exact absurd H (by simp)
                   ·
                    rw [if_neg c58] at H
                    have c58b0 : ((rdOf ByteArray.empty l0 3).toList == ([97, 103, 97, 105, 110] : List UInt8)) = false := beq_eq_false_iff_ne.mpr c58
                    have c58b1 : ((rdOf ByteArray.empty l0 3).toList != ([97, 103, 97, 105, 110] : List UInt8)) = true := bne_iff_ne.mpr c58
                    have H' := mk0 H
                    clear H
                    have p279 : 0 ≤ (3 : Int) := (by omega)
                    have q279 : 3 < (l0.length : Int) := of_decide_eq_true (by assumption)
                    obtain ⟨ad279, e279, hx279_0⟩ := Kd.at_string HR0.out 3 p279 q279
                    obtain rfl : ad269 = ad279 := (by injection e279)
                    (try simp only [show (3 : Int).toNat = 3 from rfl, Nat.reduceMul, Nat.reduceEqDiff, Go.Addr.add, ↓reduceIte] at hx279_0)
                    have qi279 : (3 < l0.length) = True := eq_true (by omega)
                    (try rw [show ((3 : Int)).toNat = 3 from rfl] at hx279_0)
                    replace hx279_0 := (HB.out.cell (World.block_lt_of_cell? w _ hx279_0)).trans hx279_0
                    replace p279 := eq_true p279
                    replace q279 := eq_true q279
                    go_wp2
                    go_meet
                    case rel => exact ⟨_, (false), (by first | rfl | (simp; done) | (simp [*]; done)), H', ⟨by have := HJ1.out; have := HJ16.out; have := HJ31.out; have := HJ38.out; first | omega | exact Nat.le_refl _⟩, ⟨by exact obk BK266.out⟩, ⟨by exact obk BK267.out⟩, ⟨by exact bok HB.out⟩⟩
                  ·
                   rw [if_neg c57] at H
                   exact absurd H (by simp)
                 ·
                  rw [if_neg c56] at H
                  have c56b0 : decide (7 ≤ (l0.length : Int)) = false := decide_eq_false c56
                  have c56b1 : decide (7 ≤ l0.length) = false := decide_eq_false (by omega)
                  clear c56
                  (first | rw [c56b0] | (simp only [i64_w, i32_w]; rw [c56b0]) | skip)
                  have H' := mk0 H
                  clear H
                  go_wp2
                  go_meet
                  case rel => exact ⟨_, (false), (by first | rfl | (simp; done) | (simp [*]; done)), H', ⟨by have := HJ1.out; have := HJ16.out; have := HJ31.out; have := HJ38.out; first | omega | exact Nat.le_refl _⟩, ⟨by exact obk BK266.out⟩, ⟨by exact obk BK267.out⟩, ⟨by exact bok HB.out⟩⟩
                case rest =>
                 clear HC55
                 try clear c1
                 try clear c2
                 try clear p2
                 try clear q2
                 try clear hx2
                 try clear qi2
                 try clear c3
                 try clear c4
                 try clear c5
                 try clear c7
                 try clear c7b0
                 try clear c7b1
                 try clear c8
                 try clear c8b0
                 try clear c8b1
                 try clear c9
                 try clear c10
                 try clear c13
                 try clear c13b0
                 try clear c13b1
                 try clear c15
                 try clear c15b0
                 try clear c15b1
                 try clear c19
                 try clear c23
                 try clear c24
                 try clear c25
                 try clear p26
                 try clear q26
                 try clear hx26
                 try clear qi26
                 try clear p27
                 try clear q27
                 try clear hx27
                 try clear qi27
                 try clear c28
                 try clear c28b0
                 try clear c28b1
                 try clear p28
                 try clear q28
                 try clear hx28
                 try clear qi28
                 try clear c29
                 try clear c33
                 try clear c33b0
                 try clear c33b1
                 try clear c34
                 try clear c34b0
                 try clear c34b1
                 try clear c35
                 try clear c36
                 try clear c40
                 try clear c40b0
                 try clear c40b1
                 try clear c41
                 try clear c41b0
                 try clear c41b1
                 try clear c42
                 try clear c43
                 try clear c43b0
                 try clear c43b1
                 try clear c46
                 try clear c49
                 try clear c56
                 try clear c56b0
                 try clear c56b1
                 try clear c57
                 try clear c57b0
                 try clear c57b1
                 try clear c58
                 try clear c58b0
                 try clear c58b1
                 try clear c59
                 try clear c59b0
                 try clear c59b1
                 try clear hx268_0
                 try clear hx269_0
                 try clear hx272_0
                 try clear hx275_0
                 try clear hx276_0
                 try clear hx279_0
                 try clear hx280_0
                 try clear p2
                 try clear p26
                 try clear p268
                 try clear p269
                 try clear p27
                 try clear p272
                 try clear p275
                 try clear p276
                 try clear p279
                 try clear p280
                 try clear q2
                 try clear q26
                 try clear q268
                 try clear q269
                 try clear q27
                 try clear q272
                 try clear q275
                 try clear q276
                 try clear q279
                 try clear q280
                 obtain ⟨kq, x78_54, rfl, HA, HJ54, BK266, BK267, HB⟩ := hcut
                 cases kq with
                 | zero => exact absurd HA.out (by simp [remontoirref17_flow.j4])
                 | succ kj54 =>
                  have H := HA.out
                  clear HA
                  simp only [remontoirref17_flow.j4] at H
                  by_cases c60 : x78_54 = true
                  ·
                   subst c60
                   have H1 : (if 4 < (l0.length : Int) then ((remontoirref17_number.f kj54 (rdOf ByteArray.empty l0 4)).bind fun bt282 => (if 6 ≤ (l0.length : Int) then ((remontoirref17_rest.f kj54 (l0.drop 6)).bind fun t285 => (if bt282.2 = true then (some (t270, t273, 3, bt282.1, t285, (t285.toList != ([] : List UInt8)))) else (some (t270, t273, 3, bt282.1, t285, false)))) else (none))) else (none)) = some (r1, r2, r3, r4, r5, r6) := by rw [if_pos rfl] at H; exact H
                   clear H
                   have H := H1
                   clear H1
                   by_cases c61 : 4 < (l0.length : Int)
                   ·
                    rw [if_pos c61] at H
                    have c61b0 : decide (4 < (l0.length : Int)) = true := decide_eq_true c61
                    have c61b1 : decide (4 < l0.length) = true := decide_eq_true (by omega)
                    clear c61
                    replace H := Option.bind_eq_some_iff.mp H
                    obtain ⟨⟨t282, t283⟩, A620, H⟩ := H
                    replace H : (if 6 ≤ (l0.length : Int) then ((remontoirref17_rest.f kj54 (l0.drop 6)).bind fun t285 => (if t283 = true then (some (t270, t273, 3, t282, t285, (t285.toList != ([] : List UInt8)))) else (some (t270, t273, 3, t282, t285, false)))) else (none)) = some (r1, r2, r3, r4, r5, r6) := H
                    have A62 := mk0 A620
                    clear A620
                    by_cases c63 : 6 ≤ (l0.length : Int)
                    ·
                     rw [if_pos c63] at H
                     have c63b0 := eq_true c63
                     have c63b1 : decide (6 ≤ (l0.length : Int)) = true := decide_eq_true c63
                     clear c63
                     replace H := Option.bind_eq_some_iff.mp H
                     obtain ⟨t285, A640, H⟩ := H
                     replace H : (if t283 = true then (some (t270, t273, 3, t282, t285, (t285.toList != ([] : List UInt8)))) else (some (t270, t273, 3, t282, t285, false))) = some (r1, r2, r3, r4, r5, r6) := H
                     have A64 := mk0 A640
                     clear A640
                     by_cases c65 : t283 = true
                     ·
                      subst c65
                      have H1 : (some (t270, t273, 3, t282, t285, (t285.toList != ([] : List UInt8)))) = some (r1, r2, r3, r4, r5, r6) := by rw [if_pos rfl] at H; exact H
                      clear H
                      have H := H1
                      clear H1
                      simp only [Option.some.injEq, Prod.mk.injEq] at H
                      obtain ⟨rfl, rfl, rfl, rfl, rfl, rfl⟩ := H
                      have p281 : 0 ≤ (4 : Int) := (by omega)
                      have q281 : 4 < (l0.length : Int) := of_decide_eq_true (by assumption)
                      obtain ⟨ad281, e281, hx281_0⟩ := Kd.at_string HR0.out 4 p281 q281
                      obtain rfl : ad269 = ad281 := (by injection e281)
                      (try simp only [show (4 : Int).toNat = 4 from rfl, Nat.reduceMul, Nat.reduceEqDiff, Go.Addr.add, ↓reduceIte] at hx281_0)
                      have qi281 : (4 < l0.length) = True := eq_true (by omega)
                      (try rw [show ((4 : Int)).toNat = 4 from rfl] at hx281_0)
                      replace hx281_0 := (HB.out.cell (World.block_lt_of_cell? w _ hx281_0)).trans hx281_0
                      replace p281 := eq_true p281
                      replace q281 := eq_true q281
                      try go_wp2_with (first | ((with_reducible refine gate_callee (f := 48) rfl ?_); refine goesL_ (some 98) rfl rfl Tryd.func48 (by kernel_rfl) rfl #[.string (rdOf ByteArray.empty l0 4)] rfl (by (try simp only [List.map_toArray, List.map_cons, List.map_nil]); first | done | rfl | (simp only [List.length_drop, List.length_take]; rfl)) ?_; (with_reducible refine (remontoirref17_number.calls kj54 (rdOf ByteArray.empty l0 4) t282 true _ A62.out).mono ?_); rintro e w66 ⟨rfl, hb⟩; refine ⟨_, rfl, ?_⟩; have n0_ := mk0 (blk_below (obk BK266.out) hb); have n1_ := mk0 (blk_below (obk BK267.out) hb); have n2_ := mk0 (bst HB.out hb); clear BK266; clear BK267; clear HB; have BK266 := n0_; have BK267 := n1_; have HB := n2_; clear n0_ n1_ n2_; (try clear hb); have hnb67 := NB267_266.out; have hnc67 := NB266_267.out; obtain ⟨hcz68_0, hcz68_1, hcz68_2, hcz68_3, hcz68_4, hfz68_0, hfz68_1, hfz68_2, hfz68_3, hfz68_4⟩ := blk5 BK267.out; obtain ⟨i069, hi069, _, hsz69, _⟩ := info_parts info9; obtain ⟨A69, hcut69, hA69, hC69⟩ := print_drop_of (P := Tryd.prog) Value.string (⟨#[]⟩ : ByteArray) 34 9 .i64 Tryd.underlying34 hi069 hsz69 (some ad269) c0 l0 6 (by omega) (of_decide_eq_true (by assumption)) HC0.out; have HR284 := mk0 (Kd.C_of_reads (h1 := fun _ => rfl) (hA69 _ (Kd.reads_of_C HR0.out))); have HC284 := mk0 hC69; clear hA69 hC69 hi069 hsz69) | ((with_reducible refine gate_callee (f := 49) rfl ?_); refine goesL_ (some 104) rfl rfl Tryd.func49 (by kernel_rfl) rfl #[.slice A69 (l0.drop 6).length (c0 - 6)] rfl (by (try simp only [List.map_toArray, List.map_cons, List.map_nil]); first | done | (rw [show (l0.drop 6).length = (l0.length - 6) from List.length_drop] <;> rfl) | rfl | (simp only [List.length_drop, List.length_take]; rfl)) ?_; (with_reducible refine (remontoirref17_rest.calls kj54 _ _ (l0.drop 6) t285 _ ?side1 ?side2 A64.out).mono ?_); (case side1 => exact Kd.C_below HR284.out (by exact bok HB.out)); (case side2 => exact HC284.out); rintro e w' ⟨rfl, ⟨nd, rfl⟩⟩; refine ⟨_, rfl, ?_⟩))
                      have n0_ : Aside0 (((((w66.setCell ⟨gb267, 3, none⟩ (.int .i64 t282)).drewN nd).setCell ⟨gb267, 2, none⟩ (.int .i64 3)).setCell ⟨gb267, 4, none⟩ (.string t285)).heap[gb266]? = some (.cells #[.int .i64 0, .int .i64 0, .int .i64 0, .int .i64 0, .string (⟨#[]⟩ : ByteArray)] 42 (0, 0))) := ⟨by refine obk ?_; refine blk_far ?_ NB266_267.out _; refine obk ?_; refine blk_far ?_ NB266_267.out _; refine obk ?_; refine blk_far ?_ NB266_267.out _; exact obk BK266.out⟩
                      have n1_ : Aside0 (((((w66.setCell ⟨gb267, 3, none⟩ (.int .i64 t282)).drewN nd).setCell ⟨gb267, 2, none⟩ (.int .i64 3)).setCell ⟨gb267, 4, none⟩ (.string t285)).heap[gb267]? = some (.cells #[.int .i64 t270, .int .i64 t273, .int .i64 3, .int .i64 t282, .string t285] 42 (0, 0))) := ⟨by refine obk ?_; refine blk_put (cs := #[.int .i64 t270, .int .i64 t273, .int .i64 3, .int .i64 t282, .string (⟨#[]⟩ : ByteArray)]) ?_ 4 _ rfl; refine obk ?_; refine blk_put (cs := #[.int .i64 t270, .int .i64 t273, .int .i64 0, .int .i64 t282, .string (⟨#[]⟩ : ByteArray)]) ?_ 2 _ rfl; refine obk ?_; refine blk_put (cs := #[.int .i64 t270, .int .i64 t273, .int .i64 0, .int .i64 0, .string (⟨#[]⟩ : ByteArray)]) ?_ 3 _ rfl; exact obk BK267.out⟩
                      have n2_ : Aside0 (Below w.heap.size w ((((w66.setCell ⟨gb267, 3, none⟩ (.int .i64 t282)).drewN nd).setCell ⟨gb267, 2, none⟩ (.int .i64 3)).setCell ⟨gb267, 4, none⟩ (.string t285))) := ⟨by exact bok HB.out⟩
                      (try clear BK266)
                      (try clear BK267)
                      (try clear HB)
                      generalize ((((w66.setCell ⟨gb267, 3, none⟩ (.int .i64 t282)).drewN nd).setCell ⟨gb267, 2, none⟩ (.int .i64 3)).setCell ⟨gb267, 4, none⟩ (.string t285)) = w70 at n0_ n1_ n2_ ⊢
                      have BK266 := n0_
                      have BK267 := n1_
                      have HB := n2_
                      clear n0_ n1_ n2_
                      (try (rw [drewN_self w70]; generalize hq_ : World.drewN w70 _ = w70; have n0_ : Aside0 (w70.heap[gb266]? = some (.cells #[.int .i64 0, .int .i64 0, .int .i64 0, .int .i64 0, .string (⟨#[]⟩ : ByteArray)] 42 (0, 0))) := ⟨by rw [← hq_]; exact (by exact obk BK266.out)⟩; have n1_ : Aside0 (w70.heap[gb267]? = some (.cells #[.int .i64 t270, .int .i64 t273, .int .i64 3, .int .i64 t282, .string t285] 42 (0, 0))) := ⟨by rw [← hq_]; exact (by exact obk BK267.out)⟩; have n2_ : Aside0 (Below w.heap.size w w70) := ⟨by rw [← hq_]; exact (by exact bok HB.out)⟩; clear BK266 BK267 HB hq_; have BK266 := n0_; have BK267 := n1_; have HB := n2_; clear n0_ n1_ n2_))
                      have n0_ := mk0 (blk_drew BK266.out)
                      have n1_ := mk0 (blk_drew BK267.out)
                      have n2_ := mk0 (below_drew1 HB.out)
                      clear BK266
                      clear BK267
                      clear HB
                      have BK266 := n0_
                      have BK267 := n1_
                      have HB := n2_
                      clear n0_ n1_ n2_
                      refine start_ (n := 9) (S := fun w' => w'.cell? ⟨gb267, 0, none⟩ = some (.int .i64 t270) ∧ w'.cell? ⟨gb267, 1, none⟩ = some (.int .i64 t273) ∧ w'.cell? ⟨gb267, 2, none⟩ = some (.int .i64 3) ∧ w'.cell? ⟨gb267, 3, none⟩ = some (.int .i64 t282) ∧ w'.cell? ⟨gb267, 4, none⟩ = some (.string t285)) (ds := []) #[false, false, false, false, false, false, false, false, false] (by kernel_rfl) rfl rfl ⟨(blk_cell BK267.out 0).trans rfl, (blk_cell BK267.out 1).trans rfl, (blk_cell BK267.out 2).trans rfl, (blk_cell BK267.out 3).trans rfl, (blk_cell BK267.out 4).trans rfl⟩ (fun hHeld => ?_); refine with_tabW remontoirref17_flow.tab20 remontoirref17_flow.bits20 (fun HT_ HW_ => ?_)
                      generalize w70.drew = w71 at BK266 BK267 HB hHeld ⊢
                      refine pure_ (i := 1) (N := some 108) (v := ?_) (a' := ?_) #[false, true, false, false, false, false, false, false, false] rfl rfl (any_of HT_.out (by kernel_rfl)) (fun _ _ _ h => h) (Or.inl ⟨by rfl, ?_⟩) ?_ ?_
                      rotate_left
                      ·
                       intro w'
                       go_simp
                       with_reducible rfl
                      rotate_left
                      ·
                       simp only [Act.put, List.setIfInBounds_toArray, List.set_cons_zero, List.set_cons_succ, i64_w, i32_w]
                       rfl
                      refine pure_ (i := 2) (N := some 109) (v := ?_) (a' := ?_) #[false, true, true, false, false, false, false, false, false] rfl rfl (any_of HT_.out (by kernel_rfl)) (fun _ _ _ h => h) (Or.inl ⟨by rfl, ?_⟩) ?_ ?_
                      rotate_left
                      ·
                       intro w'
                       go_simp
                       with_reducible rfl
                      rotate_left
                      ·
                       simp only [Act.put, List.setIfInBounds_toArray, List.set_cons_zero, List.set_cons_succ, i64_w, i32_w]
                       rfl
                      refine pure_ (i := 3) (N := some 110) (v := ?_) (a' := ?_) #[false, true, true, true, false, false, false, false, false] rfl rfl (any_of HT_.out (by kernel_rfl)) (fun _ _ _ h => h) (Or.inl ⟨by rfl, ?_⟩) ?_ ?_
                      rotate_left
                      ·
                       intro w'
                       go_simp
                       with_reducible rfl
                      rotate_left
                      ·
                       simp only [Act.put, List.setIfInBounds_toArray, List.set_cons_zero, List.set_cons_succ, i64_w, i32_w]
                       rfl
                      refine take_ (i := 0) (N := some 107) (v := ?_) (a' := ?_) #[true, true, true, true, false, false, false, false, false] rfl rfl (take_ofW HT_.out HW_.out (by kernel_rfl)) (fun _ _ _ h => h) (Or.inl ⟨by rfl, ?_⟩) hHeld ?_ ?_
                      rotate_left
                      ·
                       rintro w' ⟨s0, s1, s2, s3, s4⟩
                       go_simp
                       with_reducible rfl
                      rotate_left
                      ·
                       simp only [Act.put, List.setIfInBounds_toArray, List.set_cons_zero, List.set_cons_succ, i64_w, i32_w]
                       rfl
                      refine take_ (i := 4) (N := some 111) (v := ?_) (a' := ?_) #[true, true, true, true, true, false, false, false, false] rfl rfl (take_ofW HT_.out HW_.out (by kernel_rfl)) (fun _ _ _ h => h) (Or.inl ⟨by rfl, ?_⟩) hHeld ?_ ?_
                      rotate_left
                      ·
                       rintro w' ⟨s0, s1, s2, s3, s4⟩
                       go_simp
                       with_reducible rfl
                      rotate_left
                      ·
                       simp only [Act.put, List.setIfInBounds_toArray, List.set_cons_zero, List.set_cons_succ, i64_w, i32_w]
                       rfl
                      refine pure_ (i := 5) (N := some 112) (v := ?_) (a' := ?_) #[true, true, true, true, true, true, false, false, false] rfl rfl (any_of HT_.out (by kernel_rfl)) (fun _ _ _ h => h) (Or.inl ⟨by rfl, ?_⟩) ?_ ?_
                      rotate_left
                      ·
                       intro w'
                       go_simp
                       with_reducible rfl
                      rotate_left
                      ·
                       simp only [Act.put, List.setIfInBounds_toArray, List.set_cons_zero, List.set_cons_succ, i64_w, i32_w]
                       rfl
                      refine pure_ (i := 6) (N := some 113) (v := ?_) (a' := ?_) #[true, true, true, true, true, true, true, false, false] rfl rfl (any_of HT_.out (by kernel_rfl)) (fun _ _ _ h => h) (Or.inl ⟨by rfl, ?_⟩) ?_ ?_
                      rotate_left
                      ·
                       intro w'
                       go_simp
                       with_reducible rfl
                      rotate_left
                      ·
                       simp only [Act.put, List.setIfInBounds_toArray, List.set_cons_zero, List.set_cons_succ, i64_w, i32_w]
                       rfl
                      refine one_ (i := 7) (N := none) #[true, true, true, true, true, true, true, true, false] rfl rfl (one_of HT_.out (by kernel_rfl)) (by decide) (fun K hK => ?_)
                      have hs72 : w71.cell? ⟨gb266, 0, none⟩ = some (.int .i64 0) := (blk_cell BK266.out 0).trans rfl
                      have hfs72 := blk_frozen BK266.out 0
                      have hns72_1 := NB267_266.out
                      have hms72_1 := NB266_267.out
                      have hs73 : w71.cell? ⟨gb266, 1, none⟩ = some (.int .i64 0) := (blk_cell BK266.out 1).trans rfl
                      have hfs73 := blk_frozen BK266.out 1
                      have hns73_1 := NB267_266.out
                      have hms73_1 := NB266_267.out
                      have hs74 : w71.cell? ⟨gb266, 2, none⟩ = some (.int .i64 0) := (blk_cell BK266.out 2).trans rfl
                      have hfs74 := blk_frozen BK266.out 2
                      have hns74_1 := NB267_266.out
                      have hms74_1 := NB266_267.out
                      have hs75 : w71.cell? ⟨gb266, 3, none⟩ = some (.int .i64 0) := (blk_cell BK266.out 3).trans rfl
                      have hfs75 := blk_frozen BK266.out 3
                      have hns75_1 := NB267_266.out
                      have hms75_1 := NB266_267.out
                      have hs76 : w71.cell? ⟨gb266, 4, none⟩ = some (.string (⟨#[]⟩ : ByteArray)) := (blk_cell BK266.out 4).trans rfl
                      have hfs76 := blk_frozen BK266.out 4
                      have hns76_1 := NB267_266.out
                      have hms76_1 := NB266_267.out
                      refine skip_ (w1 := ?_) (by rfl) rfl ?_ ?_
                      rotate_left
                      ·
                       go_simp
                       rfl
                      refine hK.out _ _ ⟨((cell_far (p := ⟨gb266, _, none⟩) NB267_266.out _).trans (((cell_far (p := ⟨gb266, _, none⟩) NB267_266.out _).trans (((cell_far (p := ⟨gb266, _, none⟩) NB267_266.out _).trans (((cell_far (p := ⟨gb266, _, none⟩) NB267_266.out _).trans (((cell_far (p := ⟨gb266, _, none⟩) NB267_266.out _).trans (hHeld.1)))))))))), ((cell_far (p := ⟨gb266, _, none⟩) NB267_266.out _).trans (((cell_far (p := ⟨gb266, _, none⟩) NB267_266.out _).trans (((cell_far (p := ⟨gb266, _, none⟩) NB267_266.out _).trans (((cell_far (p := ⟨gb266, _, none⟩) NB267_266.out _).trans (((cell_far (p := ⟨gb266, _, none⟩) NB267_266.out _).trans (hHeld.2.1)))))))))), ((cell_far (p := ⟨gb266, _, none⟩) NB267_266.out _).trans (((cell_far (p := ⟨gb266, _, none⟩) NB267_266.out _).trans (((cell_far (p := ⟨gb266, _, none⟩) NB267_266.out _).trans (((cell_far (p := ⟨gb266, _, none⟩) NB267_266.out _).trans (((cell_far (p := ⟨gb266, _, none⟩) NB267_266.out _).trans (hHeld.2.2.1)))))))))), ((cell_far (p := ⟨gb266, _, none⟩) NB267_266.out _).trans (((cell_far (p := ⟨gb266, _, none⟩) NB267_266.out _).trans (((cell_far (p := ⟨gb266, _, none⟩) NB267_266.out _).trans (((cell_far (p := ⟨gb266, _, none⟩) NB267_266.out _).trans (((cell_far (p := ⟨gb266, _, none⟩) NB267_266.out _).trans (hHeld.2.2.2.1)))))))))), ((cell_far (p := ⟨gb266, _, none⟩) NB267_266.out _).trans (((cell_far (p := ⟨gb266, _, none⟩) NB267_266.out _).trans (((cell_far (p := ⟨gb266, _, none⟩) NB267_266.out _).trans (((cell_far (p := ⟨gb266, _, none⟩) NB267_266.out _).trans (((cell_far (p := ⟨gb266, _, none⟩) NB267_266.out _).trans (hHeld.2.2.2.2))))))))))⟩ (fun hHeld => ?_)
                      clear hK K
                      refine pure_ (i := 8) (N := some 3) (v := ?_) (a' := ?_) #[true, true, true, true, true, true, true, true, true] rfl rfl (any_of HT_.out (by kernel_rfl)) (fun _ _ _ h => h) (Or.inl ⟨by rfl, ?_⟩) ?_ ?_
                      rotate_left
                      ·
                       intro w'
                       go_simp
                       with_reducible rfl
                      rotate_left
                      ·
                       simp only [Act.put, List.setIfInBounds_toArray, List.set_cons_zero, List.set_cons_succ, i64_w, i32_w]
                       rfl
                      refine done_ (done_of HT_.out (by kernel_rfl)) ?_
                      try go_wp2
                      refine bodyPost_ret (results_ct rfl _ _ gb266 42 #[.int .i64 t270, .int .i64 t273, .int .i64 3, .int .i64 t282, .string t285] (0, 0) _ rfl (by exact obk (blk_put (obk (blk_put (obk (blk_put (obk (blk_put (obk (blk_put (obk BK266.out) 0 _ rfl)) 1 _ rfl)) 2 _ rfl)) 3 _ rfl)) 4 _ rfl)) Tryd.underlying42 rfl (by kernel_rfl)) rfl ?_
                      exact ⟨by first | rfl | (simp [*, errW_none, errW_some] <;> rfl) | (simp [errW_none, errW_some]; exact isEmpty_ne _), by exact bok HB.out⟩
                     ·
                      replace c65 := Bool.eq_false_iff.mpr c65
                      subst c65
                      have H1 : (some (t270, t273, 3, t282, t285, false)) = some (r1, r2, r3, r4, r5, r6) := by rw [if_neg (show ¬ (false = true) by decide)] at H; exact H
                      clear H
                      have H := H1
                      clear H1
                      simp only [Option.some.injEq, Prod.mk.injEq] at H
                      obtain ⟨rfl, rfl, rfl, rfl, rfl, rfl⟩ := H
                      have p281 : 0 ≤ (4 : Int) := (by omega)
                      have q281 : 4 < (l0.length : Int) := of_decide_eq_true (by assumption)
                      obtain ⟨ad281, e281, hx281_0⟩ := Kd.at_string HR0.out 4 p281 q281
                      obtain rfl : ad269 = ad281 := (by injection e281)
                      (try simp only [show (4 : Int).toNat = 4 from rfl, Nat.reduceMul, Nat.reduceEqDiff, Go.Addr.add, ↓reduceIte] at hx281_0)
                      have qi281 : (4 < l0.length) = True := eq_true (by omega)
                      (try rw [show ((4 : Int)).toNat = 4 from rfl] at hx281_0)
                      replace hx281_0 := (HB.out.cell (World.block_lt_of_cell? w _ hx281_0)).trans hx281_0
                      replace p281 := eq_true p281
                      replace q281 := eq_true q281
                      try go_wp2_with (first | ((with_reducible refine gate_callee (f := 48) rfl ?_); refine goesL_ (some 98) rfl rfl Tryd.func48 (by kernel_rfl) rfl #[.string (rdOf ByteArray.empty l0 4)] rfl (by (try simp only [List.map_toArray, List.map_cons, List.map_nil]); first | done | rfl | (simp only [List.length_drop, List.length_take]; rfl)) ?_; (with_reducible refine (remontoirref17_number.calls kj54 (rdOf ByteArray.empty l0 4) t282 false _ A62.out).mono ?_); rintro e w77 ⟨rfl, hb⟩; refine ⟨_, rfl, ?_⟩; have n0_ := mk0 (blk_below (obk BK266.out) hb); have n1_ := mk0 (blk_below (obk BK267.out) hb); have n2_ := mk0 (bst HB.out hb); clear BK266; clear BK267; clear HB; have BK266 := n0_; have BK267 := n1_; have HB := n2_; clear n0_ n1_ n2_; (try clear hb); have hnb78 := NB267_266.out; have hnc78 := NB266_267.out; obtain ⟨hcz79_0, hcz79_1, hcz79_2, hcz79_3, hcz79_4, hfz79_0, hfz79_1, hfz79_2, hfz79_3, hfz79_4⟩ := blk5 BK267.out; obtain ⟨i080, hi080, _, hsz80, _⟩ := info_parts info9; obtain ⟨A80, hcut80, hA80, hC80⟩ := print_drop_of (P := Tryd.prog) Value.string (⟨#[]⟩ : ByteArray) 34 9 .i64 Tryd.underlying34 hi080 hsz80 (some ad269) c0 l0 6 (by omega) (of_decide_eq_true (by assumption)) HC0.out; have HR284 := mk0 (Kd.C_of_reads (h1 := fun _ => rfl) (hA80 _ (Kd.reads_of_C HR0.out))); have HC284 := mk0 hC80; clear hA80 hC80 hi080 hsz80) | ((with_reducible refine gate_callee (f := 49) rfl ?_); refine goesL_ (some 104) rfl rfl Tryd.func49 (by kernel_rfl) rfl #[.slice A80 (l0.drop 6).length (c0 - 6)] rfl (by (try simp only [List.map_toArray, List.map_cons, List.map_nil]); first | done | (rw [show (l0.drop 6).length = (l0.length - 6) from List.length_drop] <;> rfl) | rfl | (simp only [List.length_drop, List.length_take]; rfl)) ?_; (with_reducible refine (remontoirref17_rest.calls kj54 _ _ (l0.drop 6) t285 _ ?side1 ?side2 A64.out).mono ?_); (case side1 => exact Kd.C_below HR284.out (by exact bok HB.out)); (case side2 => exact HC284.out); rintro e w' ⟨rfl, ⟨nd, rfl⟩⟩; refine ⟨_, rfl, ?_⟩))
                      have n0_ : Aside0 (((((w77.setCell ⟨gb267, 3, none⟩ (.int .i64 t282)).drewN nd).setCell ⟨gb267, 2, none⟩ (.int .i64 3)).setCell ⟨gb267, 4, none⟩ (.string t285)).heap[gb266]? = some (.cells #[.int .i64 0, .int .i64 0, .int .i64 0, .int .i64 0, .string (⟨#[]⟩ : ByteArray)] 42 (0, 0))) := ⟨by refine obk ?_; refine blk_far ?_ NB266_267.out _; refine obk ?_; refine blk_far ?_ NB266_267.out _; refine obk ?_; refine blk_far ?_ NB266_267.out _; exact obk BK266.out⟩
                      have n1_ : Aside0 (((((w77.setCell ⟨gb267, 3, none⟩ (.int .i64 t282)).drewN nd).setCell ⟨gb267, 2, none⟩ (.int .i64 3)).setCell ⟨gb267, 4, none⟩ (.string t285)).heap[gb267]? = some (.cells #[.int .i64 t270, .int .i64 t273, .int .i64 3, .int .i64 t282, .string t285] 42 (0, 0))) := ⟨by refine obk ?_; refine blk_put (cs := #[.int .i64 t270, .int .i64 t273, .int .i64 3, .int .i64 t282, .string (⟨#[]⟩ : ByteArray)]) ?_ 4 _ rfl; refine obk ?_; refine blk_put (cs := #[.int .i64 t270, .int .i64 t273, .int .i64 0, .int .i64 t282, .string (⟨#[]⟩ : ByteArray)]) ?_ 2 _ rfl; refine obk ?_; refine blk_put (cs := #[.int .i64 t270, .int .i64 t273, .int .i64 0, .int .i64 0, .string (⟨#[]⟩ : ByteArray)]) ?_ 3 _ rfl; exact obk BK267.out⟩
                      have n2_ : Aside0 (Below w.heap.size w ((((w77.setCell ⟨gb267, 3, none⟩ (.int .i64 t282)).drewN nd).setCell ⟨gb267, 2, none⟩ (.int .i64 3)).setCell ⟨gb267, 4, none⟩ (.string t285))) := ⟨by exact bok HB.out⟩
                      (try clear BK266)
                      (try clear BK267)
                      (try clear HB)
                      generalize ((((w77.setCell ⟨gb267, 3, none⟩ (.int .i64 t282)).drewN nd).setCell ⟨gb267, 2, none⟩ (.int .i64 3)).setCell ⟨gb267, 4, none⟩ (.string t285)) = w81 at n0_ n1_ n2_ ⊢
                      have BK266 := n0_
                      have BK267 := n1_
                      have HB := n2_
                      clear n0_ n1_ n2_
                      (try (rw [drewN_self w81]; generalize hq_ : World.drewN w81 _ = w81; have n0_ : Aside0 (w81.heap[gb266]? = some (.cells #[.int .i64 0, .int .i64 0, .int .i64 0, .int .i64 0, .string (⟨#[]⟩ : ByteArray)] 42 (0, 0))) := ⟨by rw [← hq_]; exact (by exact obk BK266.out)⟩; have n1_ : Aside0 (w81.heap[gb267]? = some (.cells #[.int .i64 t270, .int .i64 t273, .int .i64 3, .int .i64 t282, .string t285] 42 (0, 0))) := ⟨by rw [← hq_]; exact (by exact obk BK267.out)⟩; have n2_ : Aside0 (Below w.heap.size w w81) := ⟨by rw [← hq_]; exact (by exact bok HB.out)⟩; clear BK266 BK267 HB hq_; have BK266 := n0_; have BK267 := n1_; have HB := n2_; clear n0_ n1_ n2_))
                      have n0_ := mk0 (blk_drew BK266.out)
                      have n1_ := mk0 (blk_drew BK267.out)
                      have n2_ := mk0 (below_drew1 HB.out)
                      clear BK266
                      clear BK267
                      clear HB
                      have BK266 := n0_
                      have BK267 := n1_
                      have HB := n2_
                      clear n0_ n1_ n2_
                      refine start_ (n := 9) (S := fun w' => w'.cell? ⟨gb267, 0, none⟩ = some (.int .i64 t270) ∧ w'.cell? ⟨gb267, 1, none⟩ = some (.int .i64 t273) ∧ w'.cell? ⟨gb267, 2, none⟩ = some (.int .i64 3) ∧ w'.cell? ⟨gb267, 3, none⟩ = some (.int .i64 t282) ∧ w'.cell? ⟨gb267, 4, none⟩ = some (.string t285)) (ds := []) #[false, false, false, false, false, false, false, false, false] (by kernel_rfl) rfl rfl ⟨(blk_cell BK267.out 0).trans rfl, (blk_cell BK267.out 1).trans rfl, (blk_cell BK267.out 2).trans rfl, (blk_cell BK267.out 3).trans rfl, (blk_cell BK267.out 4).trans rfl⟩ (fun hHeld => ?_); refine with_tabW remontoirref17_flow.tab20 remontoirref17_flow.bits20 (fun HT_ HW_ => ?_)
                      generalize w81.drew = w82 at BK266 BK267 HB hHeld ⊢
                      refine pure_ (i := 1) (N := some 108) (v := ?_) (a' := ?_) #[false, true, false, false, false, false, false, false, false] rfl rfl (any_of HT_.out (by kernel_rfl)) (fun _ _ _ h => h) (Or.inl ⟨by rfl, ?_⟩) ?_ ?_
                      rotate_left
                      ·
                       intro w'
                       go_simp
                       with_reducible rfl
                      rotate_left
                      ·
                       simp only [Act.put, List.setIfInBounds_toArray, List.set_cons_zero, List.set_cons_succ, i64_w, i32_w]
                       rfl
                      refine pure_ (i := 2) (N := some 109) (v := ?_) (a' := ?_) #[false, true, true, false, false, false, false, false, false] rfl rfl (any_of HT_.out (by kernel_rfl)) (fun _ _ _ h => h) (Or.inl ⟨by rfl, ?_⟩) ?_ ?_
                      rotate_left
                      ·
                       intro w'
                       go_simp
                       with_reducible rfl
                      rotate_left
                      ·
                       simp only [Act.put, List.setIfInBounds_toArray, List.set_cons_zero, List.set_cons_succ, i64_w, i32_w]
                       rfl
                      refine pure_ (i := 3) (N := some 110) (v := undef) (a' := ?_) #[false, true, true, true, false, false, false, false, false] rfl rfl (any_of HT_.out (by kernel_rfl)) (fun _ _ _ h => h) (Or.inr ⟨by rfl, rfl⟩) ?_ ?_
                      rotate_left
                      ·
                       simp only [Act.put, List.setIfInBounds_toArray, List.set_cons_zero, List.set_cons_succ, i64_w, i32_w]
                       rfl
                      refine pure_ (i := 4) (N := some 111) (v := undef) (a' := ?_) #[false, true, true, true, true, false, false, false, false] rfl rfl (any_of HT_.out (by kernel_rfl)) (fun _ _ _ h => h) (Or.inr ⟨by rfl, rfl⟩) ?_ ?_
                      rotate_left
                      ·
                       simp only [Act.put, List.setIfInBounds_toArray, List.set_cons_zero, List.set_cons_succ, i64_w, i32_w]
                       rfl
                      refine pure_ (i := 5) (N := some 112) (v := undef) (a' := ?_) #[false, true, true, true, true, true, false, false, false] rfl rfl (any_of HT_.out (by kernel_rfl)) (fun _ _ _ h => h) (Or.inr ⟨by rfl, rfl⟩) ?_ ?_
                      rotate_left
                      ·
                       simp only [Act.put, List.setIfInBounds_toArray, List.set_cons_zero, List.set_cons_succ, i64_w, i32_w]
                       rfl
                      refine pure_ (i := 6) (N := some 113) (v := ?_) (a' := ?_) #[false, true, true, true, true, true, true, false, false] rfl rfl (any_of HT_.out (by kernel_rfl)) (fun _ _ _ h => h) (Or.inl ⟨by rfl, ?_⟩) ?_ ?_
                      rotate_left
                      ·
                       intro w'
                       go_simp
                       with_reducible rfl
                      rotate_left
                      ·
                       simp only [Act.put, List.setIfInBounds_toArray, List.set_cons_zero, List.set_cons_succ, i64_w, i32_w]
                       rfl
                      refine take_ (i := 0) (N := some 107) (v := ?_) (a' := ?_) #[true, true, true, true, true, true, true, false, false] rfl rfl (take_ofW HT_.out HW_.out (by kernel_rfl)) (fun _ _ _ h => h) (Or.inl ⟨by rfl, ?_⟩) hHeld ?_ ?_
                      rotate_left
                      ·
                       rintro w' ⟨s0, s1, s2, s3, s4⟩
                       go_simp
                       with_reducible rfl
                      rotate_left
                      ·
                       simp only [Act.put, List.setIfInBounds_toArray, List.set_cons_zero, List.set_cons_succ, i64_w, i32_w]
                       rfl
                      refine one_ (i := 7) (N := none) #[true, true, true, true, true, true, true, true, false] rfl rfl (one_of HT_.out (by kernel_rfl)) (by decide) (fun K hK => ?_)
                      have hs83 : w82.cell? ⟨gb266, 0, none⟩ = some (.int .i64 0) := (blk_cell BK266.out 0).trans rfl
                      have hfs83 := blk_frozen BK266.out 0
                      have hns83_1 := NB267_266.out
                      have hms83_1 := NB266_267.out
                      have hs84 : w82.cell? ⟨gb266, 1, none⟩ = some (.int .i64 0) := (blk_cell BK266.out 1).trans rfl
                      have hfs84 := blk_frozen BK266.out 1
                      have hns84_1 := NB267_266.out
                      have hms84_1 := NB266_267.out
                      have hs85 : w82.cell? ⟨gb266, 2, none⟩ = some (.int .i64 0) := (blk_cell BK266.out 2).trans rfl
                      have hfs85 := blk_frozen BK266.out 2
                      have hns85_1 := NB267_266.out
                      have hms85_1 := NB266_267.out
                      have hs86 : w82.cell? ⟨gb266, 3, none⟩ = some (.int .i64 0) := (blk_cell BK266.out 3).trans rfl
                      have hfs86 := blk_frozen BK266.out 3
                      have hns86_1 := NB267_266.out
                      have hms86_1 := NB266_267.out
                      have hs87 : w82.cell? ⟨gb266, 4, none⟩ = some (.string (⟨#[]⟩ : ByteArray)) := (blk_cell BK266.out 4).trans rfl
                      have hfs87 := blk_frozen BK266.out 4
                      have hns87_1 := NB267_266.out
                      have hms87_1 := NB266_267.out
                      refine skip_ (w1 := ?_) (by rfl) rfl ?_ ?_
                      rotate_left
                      ·
                       go_simp
                       rfl
                      refine hK.out _ _ ⟨((cell_far (p := ⟨gb266, _, none⟩) NB267_266.out _).trans (((cell_far (p := ⟨gb266, _, none⟩) NB267_266.out _).trans (((cell_far (p := ⟨gb266, _, none⟩) NB267_266.out _).trans (((cell_far (p := ⟨gb266, _, none⟩) NB267_266.out _).trans (((cell_far (p := ⟨gb266, _, none⟩) NB267_266.out _).trans (hHeld.1)))))))))), ((cell_far (p := ⟨gb266, _, none⟩) NB267_266.out _).trans (((cell_far (p := ⟨gb266, _, none⟩) NB267_266.out _).trans (((cell_far (p := ⟨gb266, _, none⟩) NB267_266.out _).trans (((cell_far (p := ⟨gb266, _, none⟩) NB267_266.out _).trans (((cell_far (p := ⟨gb266, _, none⟩) NB267_266.out _).trans (hHeld.2.1)))))))))), ((cell_far (p := ⟨gb266, _, none⟩) NB267_266.out _).trans (((cell_far (p := ⟨gb266, _, none⟩) NB267_266.out _).trans (((cell_far (p := ⟨gb266, _, none⟩) NB267_266.out _).trans (((cell_far (p := ⟨gb266, _, none⟩) NB267_266.out _).trans (((cell_far (p := ⟨gb266, _, none⟩) NB267_266.out _).trans (hHeld.2.2.1)))))))))), ((cell_far (p := ⟨gb266, _, none⟩) NB267_266.out _).trans (((cell_far (p := ⟨gb266, _, none⟩) NB267_266.out _).trans (((cell_far (p := ⟨gb266, _, none⟩) NB267_266.out _).trans (((cell_far (p := ⟨gb266, _, none⟩) NB267_266.out _).trans (((cell_far (p := ⟨gb266, _, none⟩) NB267_266.out _).trans (hHeld.2.2.2.1)))))))))), ((cell_far (p := ⟨gb266, _, none⟩) NB267_266.out _).trans (((cell_far (p := ⟨gb266, _, none⟩) NB267_266.out _).trans (((cell_far (p := ⟨gb266, _, none⟩) NB267_266.out _).trans (((cell_far (p := ⟨gb266, _, none⟩) NB267_266.out _).trans (((cell_far (p := ⟨gb266, _, none⟩) NB267_266.out _).trans (hHeld.2.2.2.2))))))))))⟩ (fun hHeld => ?_)
                      clear hK K
                      refine pure_ (i := 8) (N := some 3) (v := ?_) (a' := ?_) #[true, true, true, true, true, true, true, true, true] rfl rfl (any_of HT_.out (by kernel_rfl)) (fun _ _ _ h => h) (Or.inl ⟨by rfl, ?_⟩) ?_ ?_
                      rotate_left
                      ·
                       intro w'
                       go_simp
                       with_reducible rfl
                      rotate_left
                      ·
                       simp only [Act.put, List.setIfInBounds_toArray, List.set_cons_zero, List.set_cons_succ, i64_w, i32_w]
                       rfl
                      refine done_ (done_of HT_.out (by kernel_rfl)) ?_
                      try go_wp2
                      refine bodyPost_ret (results_ct rfl _ _ gb266 42 #[.int .i64 t270, .int .i64 t273, .int .i64 3, .int .i64 t282, .string t285] (0, 0) _ rfl (by exact obk (blk_put (obk (blk_put (obk (blk_put (obk (blk_put (obk (blk_put (obk BK266.out) 0 _ rfl)) 1 _ rfl)) 2 _ rfl)) 3 _ rfl)) 4 _ rfl)) Tryd.underlying42 rfl (by kernel_rfl)) rfl ?_
                      exact ⟨by first | rfl | (simp [*, errW_none, errW_some] <;> rfl) | (simp [errW_none, errW_some]; exact isEmpty_ne _), by exact bok HB.out⟩
                    ·
                     rw [if_neg c63] at H
                     exact absurd H (by simp)
                   ·
                    rw [if_neg c61] at H
                    exact absurd H (by simp)
                  ·
                   replace c60 := Bool.eq_false_iff.mpr c60
                   subst c60
                   have H1 : (some (t270, t273, 0, 0, (⟨#[]⟩ : ByteArray), false)) = some (r1, r2, r3, r4, r5, r6) := by rw [if_neg (show ¬ (false = true) by decide)] at H; exact H
                   clear H
                   have H := H1
                   clear H1
                   simp only [Option.some.injEq, Prod.mk.injEq] at H
                   obtain ⟨rfl, rfl, rfl, rfl, rfl, rfl⟩ := H
                   have hnb88 := NB267_266.out
                   have hnc88 := NB266_267.out
                   obtain ⟨hcz89_0, hcz89_1, hcz89_2, hcz89_3, hcz89_4, hfz89_0, hfz89_1, hfz89_2, hfz89_3, hfz89_4⟩ := blk5 BK267.out
                   obtain ⟨hcz90_0, hcz90_1, hcz90_2, hcz90_3, hcz90_4, hfz90_0, hfz90_1, hfz90_2, hfz90_3, hfz90_4⟩ := blk5 BK266.out
                   go_wp2
                   refine bodyPost_ret (results_ct rfl _ _ gb266 42 #[.int .i64 t270, .int .i64 t273, .int .i64 0, .int .i64 0, .string (⟨#[]⟩ : ByteArray)] (0, 0) _ rfl (by exact obk (blk_put (obk (blk_put (obk (blk_put (obk (blk_put (obk (blk_put (obk BK266.out) 0 _ rfl)) 1 _ rfl)) 2 _ rfl)) 3 _ rfl)) 4 _ rfl)) Tryd.underlying42 rfl (by kernel_rfl)) rfl ?_
                   exact ⟨by first | rfl | (simp [*, errW_none, errW_some] <;> rfl) | (simp [errW_none, errW_some]; exact isEmpty_ne _), by exact bok HB.out⟩
     ·
      rw [if_neg c15] at H
      exact absurd H (by simp)
    ·
     rw [if_neg c13] at H
     exact absurd H (by simp)

end Go.Proofs.YtpalncojmknlbaaDoor.Y
