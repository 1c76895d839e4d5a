/- What Go functions compute, as plain Lean functions, and that the machine comes to just that: written by wip/tools/printx.py (my run of the printer, with contracts of mine beside it). -/
import Derived.Test.YtpalncojmknlbaaDoorOn
import Derived.Test.YtpalncojmknlbaaDoorDefNode
import Derived.Test.YtpalncojmknlbaaDoorDefWrite
import Derived.Test.YtpalncojmknlbaaDoorAx2
import Derived.Test.YtpalncojmknlbaaDoorYx0
import Derived.Test.YtpalncojmknlbaaDoorYx5
import Derived.Test.YtpalncojmknlbaaDoorYx9
namespace Go.Proofs.YtpalncojmknlbaaDoor.Y
open Go.Proofs.YtpalncojmknlbaaDoor.Ext Go.Proofs.YtpalncojmknlbaaDoor.A Go.RowKit Go.Proofs.YtpalncojmknlbaaDoorW.PrintWords Go.Proofs.YtpalncojmknlbaaDoorW.PrintLast Go.Proofs.YtpalncojmknlbaaDoorW.PrintMore
attribute [local go_sem] max2_int min2_int max_two min_two max_three min_three max_four min_four   -- for this text's walks alone
set_option linter.unusedVariables false
set_option linter.unusedSimpArgs false

/-! ### remontoirref17_node: function 36 -/
mutual
def remontoirref17_node.l0 : Nat → List ByteArray → Int → Int → Int → Int → Int → ByteArray → Option (Int × Int × Int × Int × ByteArray × Bool)
 | 0, _, _, _, _, _, _, _ => none
 | k + 1, x0, x5, x239000, x239001, x239002, x239003, x239004 => if x5 < (x0.length : Int) then (if 0 ≤ x5 then (if (rdOf ByteArray.empty x0 x5).toList = ([] : List UInt8) then (some (x239000, x239001, x239002, x239003, x239004, false)) else (remontoirref17_node.l0 k x0 (wrap64 (x5 + 1)) x239000 x239001 x239002 x239003 x239004)) else (none)) else ((remontoirref17_words.f).bind fun t240 => (remontoirref17_node.l1 k x0 t240 1 x239000 x239001 x239002 x239003 x239004))
def remontoirref17_node.l1 : Nat → List ByteArray → List ByteArray → Int → Int → Int → Int → Int → ByteArray → Option (Int × Int × Int × Int × ByteArray × Bool)
 | 0, _, _, _, _, _, _, _, _ => none
 | k + 1, x0, x6, x7, x239000, x239001, x239002, x239003, x239004 => if x7 ≤ 9 then (if 0 < (x0.length : Int) then (if 0 ≤ x7 then (if x7 < (x6.length : Int) then (if (rdOf ByteArray.empty x0 0).toList = (rdOf ByteArray.empty x6 x7).toList then (remontoirref17_node.l1 k x0 x6 (wrap64 (x7 + 1)) x7 x239001 x239002 x239003 x239004) else (remontoirref17_node.l1 k x0 x6 (wrap64 (x7 + 1)) x239000 x239001 x239002 x239003 x239004)) else (none)) else (none)) else (none)) else ((some (([0, 2, 2, 3, 3, 2, 2, 2, 4, 4] : List Int) : List Int)).bind fun y245 => (if x239000 = 0 then (remontoirref17_node.j2 k x0 true x239000 x239001 x239002 x239003 x239004) else (if 0 ≤ x239000 then (if x239000 < (y245.length : Int) then (remontoirref17_node.j2 k x0 ((x0.length : Int) != (rd y245 x239000)) x239000 x239001 x239002 x239003 x239004) else (none)) else (none))))
def remontoirref17_node.j2 : Nat → List ByteArray → Bool → Int → Int → Int → Int → ByteArray → Option (Int × Int × Int × Int × ByteArray × Bool)
 | 0, _, _, _, _, _, _, _ => none
 | k + 1, x0, x52, x239000, x239001, x239002, x239003, x239004 => if x52 = true then (some (x239000, x239001, x239002, x239003, x239004, false)) else (if 1 < (x0.length : Int) then ((remontoirref17_number.f k (rdOf ByteArray.empty x0 1)).bind fun bt250 => (if x239000 = 3 then (if 2 < (x0.length : Int) then ((remontoirref17_number.f k (rdOf ByteArray.empty x0 2)).bind fun bt253 => (if bt250.2 = true then (some (x239000, bt250.1, bt253.1, x239003, x239004, bt253.2)) else (some (x239000, bt250.1, bt253.1, x239003, x239004, false)))) else (none)) else (if x239000 = 4 then (if 2 < (x0.length : Int) then (some (x239000, bt250.1, x239002, x239003, rdOf ByteArray.empty x0 2, bt250.2)) else (none)) else (if x239000 = 8 then (if 2 < (x0.length : Int) then ((remontoirref17_number.f k (rdOf ByteArray.empty x0 2)).bind fun bt257 => (if 3 < (x0.length : Int) then (if bt250.2 = true then (some (x239000, bt250.1, x239002, bt257.1, rdOf ByteArray.empty x0 3, bt257.2)) else (some (x239000, bt250.1, x239002, bt257.1, rdOf ByteArray.empty x0 3, false))) else (none))) else (none)) else (if x239000 = 9 then (if 2 < (x0.length : Int) then ((remontoirref17_number.f k (rdOf ByteArray.empty x0 2)).bind fun bt261 => (if 3 < (x0.length : Int) then (if bt250.2 = true then (some (x239000, bt250.1, x239002, bt261.1, rdOf ByteArray.empty x0 3, bt261.2)) else (some (x239000, bt250.1, x239002, bt261.1, rdOf ByteArray.empty x0 3, false))) else (none))) else (none)) else (some (x239000, bt250.1, x239002, x239003, x239004, bt250.2))))))) else (none))
end
def remontoirref17_node.f (k : Nat) (l0 : List ByteArray) : Option (Int × Int × Int × Int × ByteArray × Bool) := remontoirref17_node.l0 k l0 0 0 0 0 0 (⟨#[]⟩ : ByteArray)
set_option maxHeartbeats 8000000 in
set_option maxRecDepth 100000 in
theorem remontoirref17_node.calls (k : Nat) (A0 : Option Addr) (c0 : Nat) (l0 : List ByteArray) (r1 : Int) (r2 : Int) (r3 : Int) (r4 : Int) (r5 : ByteArray) (r6 : Bool) (w : World) (hr0 : Kd.C Kd.string w A0 l0.length l0) (hc0 : l0.length ≤ c0) (h : remontoirref17_node.f k l0 = some (r1, r2, r3, r4, r5, r6)) :
  Calls Tryd.prog 36 #[.slice A0 l0.length c0] w fun e w' => e = .returned (.tuple #[.agg #[.int .i64 r1, .int .i64 r2, .int .i64 r3, .int .i64 r4, .string r5], .bool r6]) ∧ Below w.heap.size w w' := by
 have hu40 := Tryd.underlying40
 have HR0 := mk0 hr0
 have HC0 := mk0 hc0
 clear hr0 hc0
 have HB := mk0 (Below.refl w.heap.size w)
 have H : (remontoirref17_node.l0 k l0 0 0 0 0 0 (⟨#[]⟩ : ByteArray)) = some (r1, r2, r3, r4, r5, r6) := h
 clear h
 have H' := mk0 H
 clear H
 go_enter Tryd.func36, Tryd.ntmps36
 go_wp2_with (first | ((with_reducible refine gate_dst (N := 2) rfl ?_); (try (refine gate_guard (by rfl) ?_; dsimp only)); refine box_event ?hg (N := 2) ?hd (cs := #[.int .i64 0, .int .i64 0, .int .i64 0, .int .i64 0, .string (⟨#[]⟩ : ByteArray)]) (t := 40) ?hr ?_; (case hd => rfl); (case hg => rfl); (case hr => first | (go_simp; done) | (go_simp; rfl)); intro gb237 hg w2 hbox hb; have n0_ := mk0 (bst HB.out hb); have n1_ := mk0 (hbox); have n2_ := mk0 (gle hg HB.out); have n3_ := mk0 (gle hg HB.out); clear HB; have HB := n0_; have BK237 := n1_; have GW237 := n2_; have GE237 := n3_; clear n0_ n1_ n2_ n3_; clear hb hbox hg) | ((with_reducible refine gate_dst (N := 4) rfl ?_); (try (refine gate_guard (by rfl) ?_; dsimp only)); refine box_event ?hg (N := 4) ?hd (cs := #[.int .i64 0, .int .i64 0, .int .i64 0, .int .i64 0, .string (⟨#[]⟩ : ByteArray)]) (t := 40) ?hr ?_; (case hd => rfl); (case hg => rfl); (case hr => first | (go_simp; done) | (go_simp; rfl)); intro gb238 hg w3 hbox hb; have n0_ := mk0 (blk_below (obk BK237.out) hb); have n1_ := mk0 (bst HB.out hb); have n2_ := mk0 (hbox); have n3_ := mk0 (gle hg HB.out); have n4_ := mk0 (gle hg HB.out); have n5_ := mk0 (nlt hg BK237.out); have n6_ := mk0 (ngt hg BK237.out); clear BK237; clear HB; have BK237 := n0_; have HB := n1_; have BK238 := n2_; have GW238 := n3_; have GE238 := n4_; have NB237_238 := n5_; have NB238_237 := n6_; clear n0_ n1_ n2_ n3_ n4_ n5_ n6_; clear hb hbox hg; have hnb4 := NB238_237.out; have hnc4 := NB237_238.out; obtain ⟨hcz5_0, hcz5_1, hcz5_2, hcz5_3, hcz5_4, hfz5_0, hfz5_1, hfz5_2, hfz5_3, hfz5_4⟩ := blk5 BK238.out))
 repeat (go_quiet (first | ((with_reducible refine gate_dst (N := 2) rfl ?_); (try (refine gate_guard (by rfl) ?_; dsimp only)); refine box_event ?hg (N := 2) ?hd (cs := #[.int .i64 0, .int .i64 0, .int .i64 0, .int .i64 0, .string (⟨#[]⟩ : ByteArray)]) (t := 40) ?hr ?_; (case hd => rfl); (case hg => rfl); (case hr => first | (go_simp; done) | (go_simp; rfl)); intro gb237 hg w2 hbox hb; have n0_ := mk0 (bst HB.out hb); have n1_ := mk0 (hbox); have n2_ := mk0 (gle hg HB.out); have n3_ := mk0 (gle hg HB.out); clear HB; have HB := n0_; have BK237 := n1_; have GW237 := n2_; have GE237 := n3_; clear n0_ n1_ n2_ n3_; clear hb hbox hg) | ((with_reducible refine gate_dst (N := 4) rfl ?_); (try (refine gate_guard (by rfl) ?_; dsimp only)); refine box_event ?hg (N := 4) ?hd (cs := #[.int .i64 0, .int .i64 0, .int .i64 0, .int .i64 0, .string (⟨#[]⟩ : ByteArray)]) (t := 40) ?hr ?_; (case hd => rfl); (case hg => rfl); (case hr => first | (go_simp; done) | (go_simp; rfl)); intro gb238 hg w3 hbox hb; have n0_ := mk0 (blk_below (obk BK237.out) hb); have n1_ := mk0 (bst HB.out hb); have n2_ := mk0 (hbox); have n3_ := mk0 (gle hg HB.out); have n4_ := mk0 (gle hg HB.out); have n5_ := mk0 (nlt hg BK237.out); have n6_ := mk0 (ngt hg BK237.out); clear BK237; clear HB; have BK237 := n0_; have HB := n1_; have BK238 := n2_; have GW238 := n3_; have GE238 := n4_; have NB237_238 := n5_; have NB238_237 := n6_; clear n0_ n1_ n2_ n3_ n4_ n5_ n6_; clear hb hbox hg; have hnb4 := NB238_237.out; have hnc4 := NB237_238.out; obtain ⟨hcz5_0, hcz5_1, hcz5_2, hcz5_3, hcz5_4, hfz5_0, hfz5_1, hfz5_2, hfz5_3, hfz5_4⟩ := blk5 BK238.out)); try go_wp2_with (first | ((with_reducible refine gate_dst (N := 2) rfl ?_); (try (refine gate_guard (by rfl) ?_; dsimp only)); refine box_event ?hg (N := 2) ?hd (cs := #[.int .i64 0, .int .i64 0, .int .i64 0, .int .i64 0, .string (⟨#[]⟩ : ByteArray)]) (t := 40) ?hr ?_; (case hd => rfl); (case hg => rfl); (case hr => first | (go_simp; done) | (go_simp; rfl)); intro gb237 hg w2 hbox hb; have n0_ := mk0 (bst HB.out hb); have n1_ := mk0 (hbox); have n2_ := mk0 (gle hg HB.out); have n3_ := mk0 (gle hg HB.out); clear HB; have HB := n0_; have BK237 := n1_; have GW237 := n2_; have GE237 := n3_; clear n0_ n1_ n2_ n3_; clear hb hbox hg) | ((with_reducible refine gate_dst (N := 4) rfl ?_); (try (refine gate_guard (by rfl) ?_; dsimp only)); refine box_event ?hg (N := 4) ?hd (cs := #[.int .i64 0, .int .i64 0, .int .i64 0, .int .i64 0, .string (⟨#[]⟩ : ByteArray)]) (t := 40) ?hr ?_; (case hd => rfl); (case hg => rfl); (case hr => first | (go_simp; done) | (go_simp; rfl)); intro gb238 hg w3 hbox hb; have n0_ := mk0 (blk_below (obk BK237.out) hb); have n1_ := mk0 (bst HB.out hb); have n2_ := mk0 (hbox); have n3_ := mk0 (gle hg HB.out); have n4_ := mk0 (gle hg HB.out); have n5_ := mk0 (nlt hg BK237.out); have n6_ := mk0 (ngt hg BK237.out); clear BK237; clear HB; have BK237 := n0_; have HB := n1_; have BK238 := n2_; have GW238 := n3_; have GE238 := n4_; have NB237_238 := n5_; have NB238_237 := n6_; clear n0_ n1_ n2_ n3_ n4_ n5_ n6_; clear hb hbox hg; have hnb4 := NB238_237.out; have hnc4 := NB237_238.out; obtain ⟨hcz5_0, hcz5_1, hcz5_2, hcz5_3, hcz5_4, hfz5_0, hfz5_1, hfz5_2, hfz5_3, hfz5_4⟩ := blk5 BK238.out)))
 go_loopg [5] k (fun kq v5 w' => ∃ (x5_1 : Int) (x238000_1 : Int) (x238001_1 : Int) (x238002_1 : Int) (x238003_1 : Int) (x238004_1 : ByteArray), v5 = .int .i64 x5_1 ∧ Aside0 (remontoirref17_node.l0 kq l0 x5_1 0 0 0 0 (⟨#[]⟩ : ByteArray) = some (r1, r2, r3, r4, r5, r6)) ∧ Aside0 (kq ≤ k) ∧ Aside0 (w'.heap[gb237]? = some (.cells #[.int .i64 x238000_1, .int .i64 x238001_1, .int .i64 x238002_1, .int .i64 x238003_1, .string x238004_1] 40 (0, 0))) ∧ Aside0 (w'.heap[gb238]? = some (.cells #[.int .i64 0, .int .i64 0, .int .i64 0, .int .i64 0, .string (⟨#[]⟩ : ByteArray)] 40 (0, 0))) ∧ Aside0 (Below w.heap.size w w'))
 case atStart => exact ⟨(0), (0), (0), (0), (0), ((⟨#[]⟩ : ByteArray)), (by first | rfl | (simp; done) | (simp [*]; done)), H', ⟨Nat.le_refl _⟩, ⟨by refine obk ?_; refine blk_far ?_ NB237_238.out _; refine obk ?_; refine blk_far ?_ NB237_238.out _; refine obk ?_; refine blk_far ?_ NB237_238.out _; refine obk ?_; refine blk_far ?_ NB237_238.out _; refine obk ?_; refine blk_far ?_ NB237_238.out _; exact obk BK237.out⟩, ⟨by refine obk ?_; refine blk_put (cs := #[.int .i64 0, .int .i64 0, .int .i64 0, .int .i64 0, .string (⟨#[]⟩ : ByteArray)]) ?_ 4 _ rfl; refine obk ?_; refine blk_put (cs := #[.int .i64 0, .int .i64 0, .int .i64 0, .int .i64 0, .string (⟨#[]⟩ : ByteArray)]) ?_ 3 _ rfl; refine obk ?_; refine blk_put (cs := #[.int .i64 0, .int .i64 0, .int .i64 0, .int .i64 0, .string (⟨#[]⟩ : ByteArray)]) ?_ 2 _ rfl; refine obk ?_; refine blk_put (cs := #[.int .i64 0, .int .i64 0, .int .i64 0, .int .i64 0, .string (⟨#[]⟩ : ByteArray)]) ?_ 1 _ rfl; refine obk ?_; refine blk_put (cs := #[.int .i64 0, .int .i64 0, .int .i64 0, .int .i64 0, .string (⟨#[]⟩ : ByteArray)]) ?_ 0 _ rfl; exact obk BK238.out⟩, ⟨by exact bok HB.out⟩⟩
 case round =>
  clear H'
  try clear p2
  try clear c3
  try clear c4
  obtain ⟨x5_1, x238000_1, x238001_1, x238002_1, x238003_1, x238004_1, rfl, HA, HK1, BK237, BK238, HB⟩ := hrel
  cases gk with
  | zero => exact absurd HA.out (by simp [remontoirref17_node.l0])
  | succ k1 =>
   have H := HA.out
   clear HA
   simp only [remontoirref17_node.l0] at H
   by_cases c6 : x5_1 < (l0.length : Int)
   ·
    rw [if_pos c6] at H
    have c6b0 : decide (x5_1 < (l0.length : Int)) = true := decide_eq_true c6
    clear c6
    by_cases c7 : 0 ≤ x5_1
    ·
     rw [if_pos c7] at H
     have c7b0 : decide (0 ≤ x5_1) = true := decide_eq_true c7
     clear c7
     by_cases c8 : (rdOf ByteArray.empty l0 x5_1).toList = ([] : List UInt8)
     ·
      rw [if_pos c8] at H
      have c8b0 : ((rdOf ByteArray.empty l0 x5_1).toList == ([] : List UInt8)) = true := beq_iff_eq.mpr c8
      have c8b1 : ((rdOf ByteArray.empty l0 x5_1).toList != ([] : List UInt8)) = false := bne_eq_false_iff_eq.mpr c8
      clear c8
      simp only [Option.some.injEq, Prod.mk.injEq] at H
      obtain ⟨rfl, rfl, rfl, rfl, rfl, rfl⟩ := H
      have p239 : 0 ≤ (x5_1 : Int) := of_decide_eq_true (by assumption)
      have q239 : x5_1 < (l0.length : Int) := of_decide_eq_true (by assumption)
      obtain ⟨ad239, e239, hx239_0⟩ := Kd.at_string HR0.out x5_1 p239 q239
      cases e239
      replace hx239_0 := (HB.out.cell (World.block_lt_of_cell? w _ hx239_0)).trans hx239_0
      replace p239 := eq_true p239
      replace q239 := eq_true q239
      have hnb9 := NB238_237.out
      have hnc9 := NB237_238.out
      obtain ⟨hcz10_0, hcz10_1, hcz10_2, hcz10_3, hcz10_4, hfz10_0, hfz10_1, hfz10_2, hfz10_3, hfz10_4⟩ := blk5 BK238.out
      obtain ⟨hcz11_0, hcz11_1, hcz11_2, hcz11_3, hcz11_4, hfz11_0, hfz11_1, hfz11_2, hfz11_3, hfz11_4⟩ := blk5 BK237.out
      go_wp2
      repeat (go_quiet (fail); try go_wp2)
      refine bodyPost_ret (results_ct rfl _ _ gb237 40 #[.int .i64 0, .int .i64 0, .int .i64 0, .int .i64 0, .string (⟨#[]⟩ : ByteArray)] (0, 0) _ rfl (by exact obk (blk_put (obk (blk_put (obk (blk_put (obk (blk_put (obk (blk_put (obk BK237.out) 0 _ rfl)) 1 _ rfl)) 2 _ rfl)) 3 _ rfl)) 4 _ rfl)) Tryd.underlying40 rfl (by kernel_rfl)) rfl ?_
      exact ⟨by first | rfl | (simp [*, errW_none, errW_some] <;> rfl), by exact bok HB.out⟩
     ·
      rw [if_neg c8] at H
      have c8b0 : ((rdOf ByteArray.empty l0 x5_1).toList == ([] : List UInt8)) = false := beq_eq_false_iff_ne.mpr c8
      have c8b1 : ((rdOf ByteArray.empty l0 x5_1).toList != ([] : List UInt8)) = true := bne_iff_ne.mpr c8
      have H' := mk0 H
      clear H
      have p239 : 0 ≤ (x5_1 : Int) := of_decide_eq_true (by assumption)
      have q239 : x5_1 < (l0.length : Int) := of_decide_eq_true (by assumption)
      obtain ⟨ad239, e239, hx239_0⟩ := Kd.at_string HR0.out x5_1 p239 q239
      cases e239
      replace hx239_0 := (HB.out.cell (World.block_lt_of_cell? w _ hx239_0)).trans hx239_0
      replace p239 := eq_true p239
      replace q239 := eq_true q239
      go_wp2
      repeat (go_quiet (fail); try go_wp2)
      go_roundg k1
      case measure => have := HK1.out; omega
      case rel => exact ⟨(wrap64 (x5_1 + 1)), (x238000_1), (x238001_1), (x238002_1), (x238003_1), (x238004_1), (by first | rfl | (simp; done) | (simp [*]; done)), H', ⟨by have := HK1.out; omega⟩, ⟨by exact obk BK237.out⟩, ⟨by exact obk BK238.out⟩, ⟨by exact bok HB.out⟩⟩
    ·
     rw [if_neg c7] at H
     exact absurd H (by simp)
   ·
    rw [if_neg c6] at H
    have c6b0 : decide (x5_1 < (l0.length : Int)) = false := decide_eq_false c6
    clear c6
    replace H := Option.bind_eq_some_iff.mp H
    obtain ⟨t240, A120, H⟩ := H
    replace H : (remontoirref17_node.l1 k1 l0 t240 1 0 0 0 0 (⟨#[]⟩ : ByteArray)) = some (r1, r2, r3, r4, r5, r6) := H
    have A12 := mk0 A120
    clear A120
    have H' := mk0 H
    clear H
    go_wp2_with (first | (go_at_call 31; (with_reducible refine (remontoirref17_words.calls  t240 _ A12.out).mono ?_); rintro e w13 ⟨v241, rfl, ho0, hb⟩; have n0_ := mk0 (Kd.R_lower ho0 (below_size (by exact bok HB.out))); have n1_ := mk0 (blk_below (obk BK237.out) hb); have n2_ := mk0 (blk_below (obk BK238.out) hb); have n3_ := mk0 (bst HB.out hb); clear BK237; clear BK238; clear HB; have HO242 := n0_; have BK237 := n1_; have BK238 := n2_; have HB := n3_; clear n0_ n1_ n2_ n3_; (try clear hb); (try clear ho0)))
    repeat (go_quiet (first | (go_at_call 31; (with_reducible refine (remontoirref17_words.calls  t240 _ A12.out).mono ?_); rintro e w13 ⟨v241, rfl, ho0, hb⟩; have n0_ := mk0 (Kd.R_lower ho0 (below_size (by exact bok HB.out))); have n1_ := mk0 (blk_below (obk BK237.out) hb); have n2_ := mk0 (blk_below (obk BK238.out) hb); have n3_ := mk0 (bst HB.out hb); clear BK237; clear BK238; clear HB; have HO242 := n0_; have BK237 := n1_; have BK238 := n2_; have HB := n3_; clear n0_ n1_ n2_ n3_; (try clear hb); (try clear ho0))); try go_wp2_with (first | (go_at_call 31; (with_reducible refine (remontoirref17_words.calls  t240 _ A12.out).mono ?_); rintro e w13 ⟨v241, rfl, ho0, hb⟩; have n0_ := mk0 (Kd.R_lower ho0 (below_size (by exact bok HB.out))); have n1_ := mk0 (blk_below (obk BK237.out) hb); have n2_ := mk0 (blk_below (obk BK238.out) hb); have n3_ := mk0 (bst HB.out hb); clear BK237; clear BK238; clear HB; have HO242 := n0_; have BK237 := n1_; have BK238 := n2_; have HB := n3_; clear n0_ n1_ n2_ n3_; (try clear hb); (try clear ho0))))
    go_loopg [7] k1 (fun kq v7 w' => ∃ (x7_2 : Int) (x239000_2 : Int), v7 = .int .i64 x7_2 ∧ Aside0 (remontoirref17_node.l1 kq l0 t240 x7_2 x239000_2 0 0 0 (⟨#[]⟩ : ByteArray) = some (r1, r2, r3, r4, r5, r6)) ∧ Aside0 (kq ≤ k1) ∧ Aside0 (Kd.R Kd.string 9 w' w.heap.size (fun _ => True) v241 t240) ∧ Aside0 (w'.heap[gb237]? = some (.cells #[.int .i64 x238000_1, .int .i64 x238001_1, .int .i64 x238002_1, .int .i64 x238003_1, .string x238004_1] 40 (0, 0))) ∧ Aside0 (w'.heap[gb238]? = some (.cells #[.int .i64 x239000_2, .int .i64 0, .int .i64 0, .int .i64 0, .string (⟨#[]⟩ : ByteArray)] 40 (0, 0))) ∧ Aside0 (Below w.heap.size w w'))
    case atStart => exact ⟨(1), (0), (by first | rfl | (simp; done) | (simp [*]; done)), H', ⟨Nat.le_refl _⟩, ⟨by exact rok HO242.out⟩, ⟨by exact obk BK237.out⟩, ⟨by exact obk BK238.out⟩, ⟨by exact bok HB.out⟩⟩
    case round =>
     clear H'
     try clear p2
     try clear q2
     try clear hx2
     try clear c3
     try clear c4
     try clear c6
     try clear c6b0
     try clear p6
     try clear c7
     try clear c7b0
     try clear c8
     try clear c8b0
     try clear c8b1
     try clear c9
     try clear hx239_0
     try clear p2
     try clear p239
     try clear q239
     obtain ⟨x7_2, x239000_2, rfl, HA, HK2, HO_6, BK237, BK238, HB⟩ := hrel
     cases gk with
     | zero => exact absurd HA.out (by simp [remontoirref17_node.l1])
     | succ k2 =>
      have H := HA.out
      clear HA
      simp only [remontoirref17_node.l1] at H
      by_cases c14 : x7_2 ≤ 9
      ·
       rw [if_pos c14] at H
       have c14b0 : decide (x7_2 ≤ 9) = true := decide_eq_true c14
       clear c14
       by_cases c15 : 0 < (l0.length : Int)
       ·
        rw [if_pos c15] at H
        have c15b0 : decide (0 < (l0.length : Int)) = true := decide_eq_true c15
        have c15b1 : decide (0 < l0.length) = true := decide_eq_true (by omega)
        clear c15
        by_cases c16 : 0 ≤ x7_2
        ·
         rw [if_pos c16] at H
         have c16b0 : decide (0 ≤ x7_2) = true := decide_eq_true c16
         clear c16
         by_cases c17 : x7_2 < (t240.length : Int)
         ·
          rw [if_pos c17] at H
          have c17b0 : decide (x7_2 < (t240.length : Int)) = true := decide_eq_true c17
          clear c17
          by_cases c18 : (rdOf ByteArray.empty l0 0).toList = (rdOf ByteArray.empty t240 x7_2).toList
          ·
           rw [if_pos c18] at H
           have c18b0 : ((rdOf ByteArray.empty l0 0).toList == (rdOf ByteArray.empty t240 x7_2).toList) = true := beq_iff_eq.mpr c18
           have c18b1 : ((rdOf ByteArray.empty l0 0).toList != (rdOf ByteArray.empty t240 x7_2).toList) = false := bne_eq_false_iff_eq.mpr c18
           clear c18
           have H' := mk0 H
           clear H
           have p243 : 0 ≤ (0 : Int) := (by omega)
           have q243 : 0 < (l0.length : Int) := of_decide_eq_true (by assumption)
           obtain ⟨ad243, e243, hx243_0⟩ := Kd.at_string HR0.out 0 p243 q243
           cases e243
           have qi243 : (0 < l0.length) = True := eq_true (by omega)
           (try rw [show ((0 : Int)).toNat = 0 from rfl] at hx243_0)
           (try rw [Addr.add_zero'] at hx243_0)
           replace hx243_0 := (HB.out.cell (World.block_lt_of_cell? w _ hx243_0)).trans hx243_0
           replace p243 := eq_true p243
           replace q243 := eq_true q243
           obtain ⟨Ao19, co19, eo19⟩ := Kd.R_slice HO_6.out
           subst eo19
           have p244 : 0 ≤ (x7_2 : Int) := of_decide_eq_true (by assumption)
           have q244 : x7_2 < (t240.length : Int) := of_decide_eq_true (by assumption)
           obtain ⟨ad244, e244, hx244_0⟩ := Kd.at_string (Kd.R_reads' HO_6.out).2.2 x7_2 p244 q244
           cases e244
           replace p244 := eq_true p244
           replace q244 := eq_true q244
           have hnb20 := NB238_237.out
           have hnc20 := NB237_238.out
           obtain ⟨hcz21_0, hcz21_1, hcz21_2, hcz21_3, hcz21_4, hfz21_0, hfz21_1, hfz21_2, hfz21_3, hfz21_4⟩ := blk5 BK238.out
           go_wp2
           repeat (go_quiet (fail); try go_wp2)
           go_roundg k2
           case measure => have := HK1.out; have := HK2.out; omega
           case rel => exact ⟨(wrap64 (x7_2 + 1)), (x7_2), (by first | rfl | (simp; done) | (simp [*]; done)), H', ⟨by have := HK1.out; have := HK2.out; omega⟩, ⟨by (with_reducible repeat (first | apply Kd.R_alloc | apply Kd.R_drewN | apply Kd.R_drew)); exact Kd.R_mono (rfar 0 (Kd.R_types HO_6.out BK238.out (by decide)) (.int .i64 x7_2)) (fun _ hk => trivial)⟩, ⟨by refine obk ?_; refine blk_far ?_ NB237_238.out _; exact obk BK237.out⟩, ⟨by refine obk ?_; refine blk_put (cs := #[.int .i64 x239000_2, .int .i64 0, .int .i64 0, .int .i64 0, .string (⟨#[]⟩ : ByteArray)]) ?_ 0 _ rfl; exact obk BK238.out⟩, ⟨by exact bok HB.out⟩⟩
          ·
           rw [if_neg c18] at H
           have c18b0 : ((rdOf ByteArray.empty l0 0).toList == (rdOf ByteArray.empty t240 x7_2).toList) = false := beq_eq_false_iff_ne.mpr c18
           have c18b1 : ((rdOf ByteArray.empty l0 0).toList != (rdOf ByteArray.empty t240 x7_2).toList) = true := bne_iff_ne.mpr c18
           have H' := mk0 H
           clear H
           have p243 : 0 ≤ (0 : Int) := (by omega)
           have q243 : 0 < (l0.length : Int) := of_decide_eq_true (by assumption)
           obtain ⟨ad243, e243, hx243_0⟩ := Kd.at_string HR0.out 0 p243 q243
           cases e243
           have qi243 : (0 < l0.length) = True := eq_true (by omega)
           (try rw [show ((0 : Int)).toNat = 0 from rfl] at hx243_0)
           (try rw [Addr.add_zero'] at hx243_0)
           replace hx243_0 := (HB.out.cell (World.block_lt_of_cell? w _ hx243_0)).trans hx243_0
           replace p243 := eq_true p243
           replace q243 := eq_true q243
           obtain ⟨Ao22, co22, eo22⟩ := Kd.R_slice HO_6.out
           subst eo22
           have p244 : 0 ≤ (x7_2 : Int) := of_decide_eq_true (by assumption)
           have q244 : x7_2 < (t240.length : Int) := of_decide_eq_true (by assumption)
           obtain ⟨ad244, e244, hx244_0⟩ := Kd.at_string (Kd.R_reads' HO_6.out).2.2 x7_2 p244 q244
           cases e244
           replace p244 := eq_true p244
           replace q244 := eq_true q244
           go_wp2
           repeat (go_quiet (fail); try go_wp2)
           go_roundg k2
           case measure => have := HK1.out; have := HK2.out; omega
           case rel => exact ⟨(wrap64 (x7_2 + 1)), (x239000_2), (by first | rfl | (simp; done) | (simp [*]; done)), H', ⟨by have := HK1.out; have := HK2.out; omega⟩, ⟨by exact rok HO_6.out⟩, ⟨by exact obk BK237.out⟩, ⟨by exact obk BK238.out⟩, ⟨by exact bok HB.out⟩⟩
         ·
          rw [if_neg c17] at H
          exact absurd H (by simp)
        ·
         rw [if_neg c16] at H
         exact absurd H (by simp)
       ·
        rw [if_neg c15] at H
        exact absurd H (by simp)
      ·
       rw [if_neg c14] at H
       have c14b0 : decide (x7_2 ≤ 9) = false := decide_eq_false c14
       clear c14
       obtain ⟨y245, hy245⟩ : ∃ y_ : List Int, y_ = (([0, 2, 2, 3, 3, 2, 2, 2, 4, 4] : List Int)) := ⟨_, rfl⟩
       replace H : (if x239000_2 = 0 then (remontoirref17_node.j2 k2 l0 true x239000_2 0 0 0 (⟨#[]⟩ : ByteArray)) else (if 0 ≤ x239000_2 then (if x239000_2 < (y245.length : Int) then (remontoirref17_node.j2 k2 l0 ((l0.length : Int) != (rd y245 x239000_2)) x239000_2 0 0 0 (⟨#[]⟩ : ByteArray)) else (none)) else (none))) = some (r1, r2, r3, r4, r5, r6) := by first | (rw [hy245]; with_reducible exact H) | (have H2_ := (Option.bind_some _ _).symm.trans H; rw [hy245]; with_reducible exact H2_) | (have H2_ := (Option.bind_some _ _).symm.trans H; with_reducible exact H2_) | with_reducible exact H | (rw [hy245]; exact H) | exact H
       have Ny245 := mk0 hy245
       clear hy245
       have HC23 := mk0 H
       clear H
       go_upto_region 14 with (first | ((with_reducible refine gate_dst (N := 39) rfl ?_); (try (refine gate_guard (by rfl) ?_; dsimp only)); refine Kd.R_lit (Kd.int .i64) _ 3 ?hg (N := 39) ?hd (xs := ([0, 2, 2, 3, 3, 2, 2, 2, 4, 4] : List Int)) (inner := [.int .i64 0, .int .i64 2, .int .i64 2, .int .i64 3, .int .i64 3, .int .i64 2, .int .i64 2, .int .i64 2, .int .i64 4, .int .i64 4]) (ok := fun _ => True) (okp := fun _ => True) ?hr ?hp (fun _ hk => hk) trivial (Below.refl _ _) (Nat.le_refl _) (by simp) ?_; (case hd => rfl); (case hg => rfl); (case hr => first | (go_simp; done) | (go_simp; rfl)); (case hp => exact (Reps.one (show Kd.M (Kd.int .i64) _ _ _ 0 [.int .i64 0] from rfl) (Reps.one (show Kd.M (Kd.int .i64) _ _ _ 2 [.int .i64 2] from rfl) (Reps.one (show Kd.M (Kd.int .i64) _ _ _ 2 [.int .i64 2] from rfl) (Reps.one (show Kd.M (Kd.int .i64) _ _ _ 3 [.int .i64 3] from rfl) (Reps.one (show Kd.M (Kd.int .i64) _ _ _ 3 [.int .i64 3] from rfl) (Reps.one (show Kd.M (Kd.int .i64) _ _ _ 2 [.int .i64 2] from rfl) (Reps.one (show Kd.M (Kd.int .i64) _ _ _ 2 [.int .i64 2] from rfl) (Reps.one (show Kd.M (Kd.int .i64) _ _ _ 2 [.int .i64 2] from rfl) (Reps.one (show Kd.M (Kd.int .i64) _ _ _ 4 [.int .i64 4] from rfl) (Reps.one (show Kd.M (Kd.int .i64) _ _ _ 4 [.int .i64 4] from rfl) (Reps.none _ _)))))))))))); intro v246 w24 ho25 hb hg_ hnew_; clear hg_ hnew_; (first | rw [← Ny245.out] at ho25 | (simp only [Int.reduceToNat] at ho25; rw [← Ny245.out] at ho25)); have n0_ := mk0 (Kd.R_below (by exact rok HO_6.out) hb); have n1_ := mk0 (Kd.R_lower ho25 (below_size (by exact bok HB.out))); have n2_ := mk0 (blk_below (obk BK237.out) hb); have n3_ := mk0 (blk_below (obk BK238.out) hb); have n4_ := mk0 (bst HB.out hb); clear HO_6; clear BK237; clear BK238; clear HB; have HO_6 := n0_; have HO247 := n1_; have BK237 := n2_; have BK238 := n3_; have HB := n4_; clear n0_ n1_ n2_ n3_ n4_; clear hb ho25))
       repeat (go_quiet (first | ((with_reducible refine gate_dst (N := 39) rfl ?_); (try (refine gate_guard (by rfl) ?_; dsimp only)); refine Kd.R_lit (Kd.int .i64) _ 3 ?hg (N := 39) ?hd (xs := ([0, 2, 2, 3, 3, 2, 2, 2, 4, 4] : List Int)) (inner := [.int .i64 0, .int .i64 2, .int .i64 2, .int .i64 3, .int .i64 3, .int .i64 2, .int .i64 2, .int .i64 2, .int .i64 4, .int .i64 4]) (ok := fun _ => True) (okp := fun _ => True) ?hr ?hp (fun _ hk => hk) trivial (Below.refl _ _) (Nat.le_refl _) (by simp) ?_; (case hd => rfl); (case hg => rfl); (case hr => first | (go_simp; done) | (go_simp; rfl)); (case hp => exact (Reps.one (show Kd.M (Kd.int .i64) _ _ _ 0 [.int .i64 0] from rfl) (Reps.one (show Kd.M (Kd.int .i64) _ _ _ 2 [.int .i64 2] from rfl) (Reps.one (show Kd.M (Kd.int .i64) _ _ _ 2 [.int .i64 2] from rfl) (Reps.one (show Kd.M (Kd.int .i64) _ _ _ 3 [.int .i64 3] from rfl) (Reps.one (show Kd.M (Kd.int .i64) _ _ _ 3 [.int .i64 3] from rfl) (Reps.one (show Kd.M (Kd.int .i64) _ _ _ 2 [.int .i64 2] from rfl) (Reps.one (show Kd.M (Kd.int .i64) _ _ _ 2 [.int .i64 2] from rfl) (Reps.one (show Kd.M (Kd.int .i64) _ _ _ 2 [.int .i64 2] from rfl) (Reps.one (show Kd.M (Kd.int .i64) _ _ _ 4 [.int .i64 4] from rfl) (Reps.one (show Kd.M (Kd.int .i64) _ _ _ 4 [.int .i64 4] from rfl) (Reps.none _ _)))))))))))); intro v246 w24 ho25 hb hg_ hnew_; clear hg_ hnew_; (first | rw [← Ny245.out] at ho25 | (simp only [Int.reduceToNat] at ho25; rw [← Ny245.out] at ho25)); have n0_ := mk0 (Kd.R_below (by exact rok HO_6.out) hb); have n1_ := mk0 (Kd.R_lower ho25 (below_size (by exact bok HB.out))); have n2_ := mk0 (blk_below (obk BK237.out) hb); have n3_ := mk0 (blk_below (obk BK238.out) hb); have n4_ := mk0 (bst HB.out hb); clear HO_6; clear BK237; clear BK238; clear HB; have HO_6 := n0_; have HO247 := n1_; have BK237 := n2_; have BK238 := n3_; have HB := n4_; clear n0_ n1_ n2_ n3_ n4_; clear hb ho25)); go_upto_region 14 with (first | ((with_reducible refine gate_dst (N := 39) rfl ?_); (try (refine gate_guard (by rfl) ?_; dsimp only)); refine Kd.R_lit (Kd.int .i64) _ 3 ?hg (N := 39) ?hd (xs := ([0, 2, 2, 3, 3, 2, 2, 2, 4, 4] : List Int)) (inner := [.int .i64 0, .int .i64 2, .int .i64 2, .int .i64 3, .int .i64 3, .int .i64 2, .int .i64 2, .int .i64 2, .int .i64 4, .int .i64 4]) (ok := fun _ => True) (okp := fun _ => True) ?hr ?hp (fun _ hk => hk) trivial (Below.refl _ _) (Nat.le_refl _) (by simp) ?_; (case hd => rfl); (case hg => rfl); (case hr => first | (go_simp; done) | (go_simp; rfl)); (case hp => exact (Reps.one (show Kd.M (Kd.int .i64) _ _ _ 0 [.int .i64 0] from rfl) (Reps.one (show Kd.M (Kd.int .i64) _ _ _ 2 [.int .i64 2] from rfl) (Reps.one (show Kd.M (Kd.int .i64) _ _ _ 2 [.int .i64 2] from rfl) (Reps.one (show Kd.M (Kd.int .i64) _ _ _ 3 [.int .i64 3] from rfl) (Reps.one (show Kd.M (Kd.int .i64) _ _ _ 3 [.int .i64 3] from rfl) (Reps.one (show Kd.M (Kd.int .i64) _ _ _ 2 [.int .i64 2] from rfl) (Reps.one (show Kd.M (Kd.int .i64) _ _ _ 2 [.int .i64 2] from rfl) (Reps.one (show Kd.M (Kd.int .i64) _ _ _ 2 [.int .i64 2] from rfl) (Reps.one (show Kd.M (Kd.int .i64) _ _ _ 4 [.int .i64 4] from rfl) (Reps.one (show Kd.M (Kd.int .i64) _ _ _ 4 [.int .i64 4] from rfl) (Reps.none _ _)))))))))))); intro v246 w24 ho25 hb hg_ hnew_; clear hg_ hnew_; (first | rw [← Ny245.out] at ho25 | (simp only [Int.reduceToNat] at ho25; rw [← Ny245.out] at ho25)); have n0_ := mk0 (Kd.R_below (by exact rok HO_6.out) hb); have n1_ := mk0 (Kd.R_lower ho25 (below_size (by exact bok HB.out))); have n2_ := mk0 (blk_below (obk BK237.out) hb); have n3_ := mk0 (blk_below (obk BK238.out) hb); have n4_ := mk0 (bst HB.out hb); clear HO_6; clear BK237; clear BK238; clear HB; have HO_6 := n0_; have HO247 := n1_; have BK237 := n2_; have BK238 := n3_; have HB := n4_; clear n0_ n1_ n2_ n3_ n4_; clear hb ho25)))
       (try simp only [Act.put, List.setIfInBounds_toArray, List.set_cons_zero, List.set_cons_succ])
       go_cut [52] (fun v52 wc => ∃ (kq : Nat) (x52_22 : Bool), v52 = .bool x52_22 ∧ Aside0 (remontoirref17_node.j2 kq l0 x52_22 x239000_2 0 0 0 (⟨#[]⟩ : ByteArray) = some (r1, r2, r3, r4, r5, r6)) ∧ Aside0 (kq ≤ k2) ∧ Aside0 (wc.heap[gb237]? = some (.cells #[.int .i64 x238000_1, .int .i64 x238001_1, .int .i64 x238002_1, .int .i64 x238003_1, .string x238004_1] 40 (0, 0))) ∧ Aside0 (wc.heap[gb238]? = some (.cells #[.int .i64 x239000_2, .int .i64 0, .int .i64 0, .int .i64 0, .string (⟨#[]⟩ : ByteArray)] 40 (0, 0))) ∧ Aside0 (Below w.heap.size w wc))
       case first =>
        have H := HC23.out
        clear HC23
        by_cases c26 : x239000_2 = 0
        ·
         rw [if_pos c26] at H
         have c26b0 : (x239000_2 == 0) = true := beq_iff_eq.mpr c26
         have c26b1 : (x239000_2 != 0) = false := bne_eq_false_iff_eq.mpr c26
         clear c26
         (first | rw [c26b0] | (simp only [i64_w, i32_w]; rw [c26b0]) | skip)
         have H' := mk0 H
         clear H
         have hnb27 := NB238_237.out
         have hnc27 := NB237_238.out
         obtain ⟨hcz28_0, hcz28_1, hcz28_2, hcz28_3, hcz28_4, hfz28_0, hfz28_1, hfz28_2, hfz28_3, hfz28_4⟩ := blk5 BK238.out
         go_wp2
         repeat (go_quiet (fail); try go_wp2)
         go_meet
         case rel => exact ⟨_, (true), (by first | rfl | (simp; done) | (simp [*]; done)), H', ⟨by have := HK1.out; have := HK2.out; first | omega | exact Nat.le_refl _⟩, ⟨by exact obk BK237.out⟩, ⟨by exact obk BK238.out⟩, ⟨by exact bok HB.out⟩⟩
        ·
         rw [if_neg c26] at H
         have c26b0 : (x239000_2 == 0) = false := beq_eq_false_iff_ne.mpr c26
         have c26b1 : (x239000_2 != 0) = true := bne_iff_ne.mpr c26
         (first | rw [c26b0] | (simp only [i64_w, i32_w]; rw [c26b0]) | skip)
         by_cases c29 : 0 ≤ x239000_2
         ·
          rw [if_pos c29] at H
          have c29b0 : decide (0 ≤ x239000_2) = true := decide_eq_true c29
          clear c29
          by_cases c30 : x239000_2 < (y245.length : Int)
          ·
           rw [if_pos c30] at H
           have c30b0 : decide (x239000_2 < (y245.length : Int)) = true := decide_eq_true c30
           clear c30
           have H' := mk0 H
           clear H
           have hnb31 := NB238_237.out
           have hnc31 := NB237_238.out
           obtain ⟨hcz32_0, hcz32_1, hcz32_2, hcz32_3, hcz32_4, hfz32_0, hfz32_1, hfz32_2, hfz32_3, hfz32_4⟩ := blk5 BK238.out
           obtain ⟨Ao33, co33, eo33⟩ := Kd.R_slice HO247.out
           subst eo33
           have p248 : 0 ≤ (x239000_2 : Int) := of_decide_eq_true (by assumption)
           have q248 : x239000_2 < (y245.length : Int) := of_decide_eq_true (by assumption)
           obtain ⟨ad248, e248, hx248_0⟩ := Kd.at_int (Kd.R_reads' HO247.out).2.2 x239000_2 p248 q248
           cases e248
           replace p248 := eq_true p248
           replace q248 := eq_true q248
           go_wp2
           repeat (go_quiet (fail); try go_wp2)
           go_meet
           case rel => exact ⟨_, (((l0.length : Int) != (rd y245 x239000_2))), (by first | rfl | (simp; done) | (simp [*]; done)), H', ⟨by have := HK1.out; have := HK2.out; first | omega | exact Nat.le_refl _⟩, ⟨by exact obk BK237.out⟩, ⟨by exact obk BK238.out⟩, ⟨by exact bok HB.out⟩⟩
          ·
           rw [if_neg c30] at H
           exact absurd H (by simp)
         ·
          rw [if_neg c29] at H
          exact absurd H (by simp)
       case rest =>
        clear HC23
        try clear c1
        try clear c2
        try clear p2
        try clear q2
        try clear hx2
        try clear qi2
        try clear c3
        try clear c4
        try clear c6
        try clear c6b0
        try clear p6
        try clear c7
        try clear c7b0
        try clear c8
        try clear c8b0
        try clear c8b1
        try clear c9
        try clear c14
        try clear c14b0
        try clear c15
        try clear c15b0
        try clear c15b1
        try clear c16
        try clear c16b0
        try clear c17
        try clear c17b0
        try clear c18
        try clear c18b0
        try clear c18b1
        try clear c20
        try clear p23
        try clear q23
        try clear hx23
        try clear p24
        try clear q24
        try clear hx24
        try clear qi24
        try clear c26
        try clear c26b0
        try clear c26b1
        try clear c27
        try clear c29
        try clear c29b0
        try clear c30
        try clear c30b0
        try clear c31
        try clear hx239_0
        try clear hx243_0
        try clear hx244_0
        try clear hx248_0
        try clear p2
        try clear p239
        try clear p243
        try clear p244
        try clear p248
        try clear p6
        try clear q2
        try clear q239
        try clear q243
        try clear q244
        try clear q248
        obtain ⟨kq, x52_22, rfl, HA, HJ22, BK237, BK238, HB⟩ := hcut
        cases kq with
        | zero => exact absurd HA.out (by simp [remontoirref17_node.j2])
        | succ kj22 =>
         have H := HA.out
         clear HA
         simp only [remontoirref17_node.j2] at H
         by_cases c34 : x52_22 = true
         ·
          subst c34
          have H1 : (some (x239000_2, 0, 0, 0, (⟨#[]⟩ : ByteArray), false)) = some (r1, r2, r3, r4, r5, r6) := by rw [if_pos rfl] at H; exact H
          clear H
          have H := H1
          clear H1
          simp only [Option.some.injEq, Prod.mk.injEq] at H
          obtain ⟨rfl, rfl, rfl, rfl, rfl, rfl⟩ := H
          have hnb35 := NB238_237.out
          have hnc35 := NB237_238.out
          obtain ⟨hcz36_0, hcz36_1, hcz36_2, hcz36_3, hcz36_4, hfz36_0, hfz36_1, hfz36_2, hfz36_3, hfz36_4⟩ := blk5 BK238.out
          obtain ⟨hcz37_0, hcz37_1, hcz37_2, hcz37_3, hcz37_4, hfz37_0, hfz37_1, hfz37_2, hfz37_3, hfz37_4⟩ := blk5 BK237.out
          go_wp2
          repeat (go_quiet (fail); try go_wp2)
          refine bodyPost_ret (results_ct rfl _ _ gb237 40 #[.int .i64 x239000_2, .int .i64 0, .int .i64 0, .int .i64 0, .string (⟨#[]⟩ : ByteArray)] (0, 0) _ rfl (by exact obk (blk_put (obk (blk_put (obk (blk_put (obk (blk_put (obk (blk_put (obk BK237.out) 0 _ rfl)) 1 _ rfl)) 2 _ rfl)) 3 _ rfl)) 4 _ rfl)) Tryd.underlying40 rfl (by kernel_rfl)) rfl ?_
          exact ⟨by first | rfl | (simp [*, errW_none, errW_some] <;> rfl), by exact bok HB.out⟩
         ·
          replace c34 := Bool.eq_false_iff.mpr c34
          subst c34
          have H1 : (if 1 < (l0.length : Int) then ((remontoirref17_number.f kj22 (rdOf ByteArray.empty l0 1)).bind fun bt250 => (if x239000_2 = 3 then (if 2 < (l0.length : Int) then ((remontoirref17_number.f kj22 (rdOf ByteArray.empty l0 2)).bind fun bt253 => (if bt250.2 = true then (some (x239000_2, bt250.1, bt253.1, 0, (⟨#[]⟩ : ByteArray), bt253.2)) else (some (x239000_2, bt250.1, bt253.1, 0, (⟨#[]⟩ : ByteArray), false)))) else (none)) else (if x239000_2 = 4 then (if 2 < (l0.length : Int) then (some (x239000_2, bt250.1, 0, 0, rdOf ByteArray.empty l0 2, bt250.2)) else (none)) else (if x239000_2 = 8 then (if 2 < (l0.length : Int) then ((remontoirref17_number.f kj22 (rdOf ByteArray.empty l0 2)).bind fun bt257 => (if 3 < (l0.length : Int) then (if bt250.2 = true then (some (x239000_2, bt250.1, 0, bt257.1, rdOf ByteArray.empty l0 3, bt257.2)) else (some (x239000_2, bt250.1, 0, bt257.1, rdOf ByteArray.empty l0 3, false))) else (none))) else (none)) else (if x239000_2 = 9 then (if 2 < (l0.length : Int) then ((remontoirref17_number.f kj22 (rdOf ByteArray.empty l0 2)).bind fun bt261 => (if 3 < (l0.length : Int) then (if bt250.2 = true then (some (x239000_2, bt250.1, 0, bt261.1, rdOf ByteArray.empty l0 3, bt261.2)) else (some (x239000_2, bt250.1, 0, bt261.1, rdOf ByteArray.empty l0 3, false))) else (none))) else (none)) else (some (x239000_2, bt250.1, 0, 0, (⟨#[]⟩ : ByteArray), bt250.2))))))) else (none)) = some (r1, r2, r3, r4, r5, r6) := by rw [if_neg (show ¬ (false = true) by decide)] at H; exact H
          clear H
          have H := H1
          clear H1
          by_cases c38 : 1 < (l0.length : Int)
          ·
           rw [if_pos c38] at H
           have c38b0 : decide (1 < (l0.length : Int)) = true := decide_eq_true c38
           have c38b1 : decide (1 < l0.length) = true := decide_eq_true (by omega)
           clear c38
           replace H := Option.bind_eq_some_iff.mp H
           obtain ⟨⟨t250, t251⟩, A390, H⟩ := H
           replace H : (if x239000_2 = 3 then (if 2 < (l0.length : Int) then ((remontoirref17_number.f kj22 (rdOf ByteArray.empty l0 2)).bind fun bt253 => (if t251 = true then (some (x239000_2, t250, bt253.1, 0, (⟨#[]⟩ : ByteArray), bt253.2)) else (some (x239000_2, t250, bt253.1, 0, (⟨#[]⟩ : ByteArray), false)))) else (none)) else (if x239000_2 = 4 then (if 2 < (l0.length : Int) then (some (x239000_2, t250, 0, 0, rdOf ByteArray.empty l0 2, t251)) else (none)) else (if x239000_2 = 8 then (if 2 < (l0.length : Int) then ((remontoirref17_number.f kj22 (rdOf ByteArray.empty l0 2)).bind fun bt257 => (if 3 < (l0.length : Int) then (if t251 = true then (some (x239000_2, t250, 0, bt257.1, rdOf ByteArray.empty l0 3, bt257.2)) else (some (x239000_2, t250, 0, bt257.1, rdOf ByteArray.empty l0 3, false))) else (none))) else (none)) else (if x239000_2 = 9 then (if 2 < (l0.length : Int) then ((remontoirref17_number.f kj22 (rdOf ByteArray.empty l0 2)).bind fun bt261 => (if 3 < (l0.length : Int) then (if t251 = true then (some (x239000_2, t250, 0, bt261.1, rdOf ByteArray.empty l0 3, bt261.2)) else (some (x239000_2, t250, 0, bt261.1, rdOf ByteArray.empty l0 3, false))) else (none))) else (none)) else (some (x239000_2, t250, 0, 0, (⟨#[]⟩ : ByteArray), t251)))))) = some (r1, r2, r3, r4, r5, r6) := H
           have A39 := mk0 A390
           clear A390
           by_cases c40 : x239000_2 = 3
           ·
            rw [if_pos c40] at H
            have c40b0 : (x239000_2 == 3) = true := beq_iff_eq.mpr c40
            have c40b1 : (x239000_2 != 3) = false := bne_eq_false_iff_eq.mpr c40
            clear c40
            by_cases c41 : 2 < (l0.length : Int)
            ·
             rw [if_pos c41] at H
             have c41b0 : decide (2 < (l0.length : Int)) = true := decide_eq_true c41
             have c41b1 : decide (2 < l0.length) = true := decide_eq_true (by omega)
             clear c41
             replace H := Option.bind_eq_some_iff.mp H
             obtain ⟨⟨t253, t254⟩, A420, H⟩ := H
             replace H : (if t251 = true then (some (x239000_2, t250, t253, 0, (⟨#[]⟩ : ByteArray), t254)) else (some (x239000_2, t250, t253, 0, (⟨#[]⟩ : ByteArray), false))) = some (r1, r2, r3, r4, r5, r6) := H
             have A42 := mk0 A420
             clear A420
             by_cases c43 : t251 = true
             ·
              subst c43
              have H1 : (some (x239000_2, t250, t253, 0, (⟨#[]⟩ : ByteArray), t254)) = some (r1, r2, r3, r4, r5, r6) := by rw [if_pos rfl] at H; exact H
              clear H
              have H := H1
              clear H1
              simp only [Option.some.injEq, Prod.mk.injEq] at H
              obtain ⟨rfl, rfl, rfl, rfl, rfl, rfl⟩ := H
              have p249 : 0 ≤ (1 : Int) := (by omega)
              have q249 : 1 < (l0.length : Int) := of_decide_eq_true (by assumption)
              obtain ⟨ad249, e249, hx249_0⟩ := Kd.at_string HR0.out 1 p249 q249
              cases e249
              (try simp only [show (1 : Int).toNat = 1 from rfl, Nat.reduceMul, Nat.reduceEqDiff, Go.Addr.add, ↓reduceIte] at hx249_0)
              have qi249 : (1 < l0.length) = True := eq_true (by omega)
              (try rw [show ((1 : Int)).toNat = 1 from rfl] at hx249_0)
              replace hx249_0 := (HB.out.cell (World.block_lt_of_cell? w _ hx249_0)).trans hx249_0
              replace p249 := eq_true p249
              replace q249 := eq_true q249
              go_wp2_with (first | (go_at_call 48; (with_reducible refine (remontoirref17_number.calls kj22 (rdOf ByteArray.empty l0 1) t250 true _ A39.out).mono ?_); rintro e w44 ⟨rfl, hb⟩; have n0_ := mk0 (blk_below (obk BK237.out) hb); have n1_ := mk0 (blk_below (obk BK238.out) hb); have n2_ := mk0 (bst HB.out hb); clear BK237; clear BK238; clear HB; have BK237 := n0_; have BK238 := n1_; have HB := n2_; clear n0_ n1_ n2_; (try clear hb); have hnb45 := NB238_237.out; have hnc45 := NB237_238.out; obtain ⟨hcz46_0, hcz46_1, hcz46_2, hcz46_3, hcz46_4, hfz46_0, hfz46_1, hfz46_2, hfz46_3, hfz46_4⟩ := blk5 BK238.out; have p252 : 0 ≤ (2 : Int) := (by omega); have q252 : 2 < (l0.length : Int) := of_decide_eq_true (by assumption); obtain ⟨ad252, e252, hx252_0⟩ := Kd.at_string HR0.out 2 p252 q252; obtain rfl : ad249 = ad252 := (by injection e252); (try simp only [show (2 : Int).toNat = 2 from rfl, Nat.reduceMul, Nat.reduceEqDiff, Go.Addr.add, ↓reduceIte] at hx252_0); have qi252 : (2 < l0.length) = True := eq_true (by omega); (try rw [show ((2 : Int)).toNat = 2 from rfl] at hx252_0); have hn252_0 : ad249.block ≠ gb238 := Nat.ne_of_lt (Nat.lt_of_lt_of_le (by have := World.block_lt_of_cell? _ _ hx252_0; first | rwa [add_block] at this | exact this) GW238.out); replace hx252_0 := (HB.out.cell (World.block_lt_of_cell? w _ hx252_0)).trans hx252_0; replace hx252_0 := (cell_far (p := ⟨gb238, 1, none⟩) (by first | (rw [add_block]; exact hn252_0) | (show (Addr.add _ _).block ≠ _; rw [add_block]; exact hn252_0) | exact hn252_0) (.int .i64 t250)).trans hx252_0; (try have hy252_0 := fun (n_ : Nat) => (show (((w44.drewN n_).setCell ⟨gb238, 1, none⟩ (.int .i64 t250))).cell? _ = some _ from hx252_0)); clear hn252_0; replace p252 := eq_true p252; replace q252 := eq_true q252) | (go_at_call 48; (with_reducible refine (remontoirref17_number.calls kj22 (rdOf ByteArray.empty l0 2) t253 t254 _ A42.out).mono ?_); rintro e w47 ⟨rfl, hb⟩; have n0_ := mk0 (blk_below (obf BK237.out) hb); have n1_ := mk0 (blk_below (g := gb238) (o := .cells #[.int .i64 x239000_2, .int .i64 t250, .int .i64 0, .int .i64 0, .string (⟨#[]⟩ : ByteArray)] 40 (0, 0)) (by exact obk (blk_put (obk BK238.out) 1 _ rfl)) hb); have n2_ := mk0 (bst HB.out hb); clear BK237; clear BK238; clear HB; have BK237 := n0_; have BK238 := n1_; have HB := n2_; clear n0_ n1_ n2_; (try clear hb); obtain ⟨hcz48_0, hcz48_1, hcz48_2, hcz48_3, hcz48_4, hfz48_0, hfz48_1, hfz48_2, hfz48_3, hfz48_4⟩ := blk5 BK238.out; obtain ⟨hcz49_0, hcz49_1, hcz49_2, hcz49_3, hcz49_4, hfz49_0, hfz49_1, hfz49_2, hfz49_3, hfz49_4⟩ := blk5 BK237.out))
              repeat (go_quiet (first | (go_at_call 48; (with_reducible refine (remontoirref17_number.calls kj22 (rdOf ByteArray.empty l0 1) t250 true _ A39.out).mono ?_); rintro e w44 ⟨rfl, hb⟩; have n0_ := mk0 (blk_below (obk BK237.out) hb); have n1_ := mk0 (blk_below (obk BK238.out) hb); have n2_ := mk0 (bst HB.out hb); clear BK237; clear BK238; clear HB; have BK237 := n0_; have BK238 := n1_; have HB := n2_; clear n0_ n1_ n2_; (try clear hb); have hnb45 := NB238_237.out; have hnc45 := NB237_238.out; obtain ⟨hcz46_0, hcz46_1, hcz46_2, hcz46_3, hcz46_4, hfz46_0, hfz46_1, hfz46_2, hfz46_3, hfz46_4⟩ := blk5 BK238.out; have p252 : 0 ≤ (2 : Int) := (by omega); have q252 : 2 < (l0.length : Int) := of_decide_eq_true (by assumption); obtain ⟨ad252, e252, hx252_0⟩ := Kd.at_string HR0.out 2 p252 q252; obtain rfl : ad249 = ad252 := (by injection e252); (try simp only [show (2 : Int).toNat = 2 from rfl, Nat.reduceMul, Nat.reduceEqDiff, Go.Addr.add, ↓reduceIte] at hx252_0); have qi252 : (2 < l0.length) = True := eq_true (by omega); (try rw [show ((2 : Int)).toNat = 2 from rfl] at hx252_0); have hn252_0 : ad249.block ≠ gb238 := Nat.ne_of_lt (Nat.lt_of_lt_of_le (by have := World.block_lt_of_cell? _ _ hx252_0; first | rwa [add_block] at this | exact this) GW238.out); replace hx252_0 := (HB.out.cell (World.block_lt_of_cell? w _ hx252_0)).trans hx252_0; replace hx252_0 := (cell_far (p := ⟨gb238, 1, none⟩) (by first | (rw [add_block]; exact hn252_0) | (show (Addr.add _ _).block ≠ _; rw [add_block]; exact hn252_0) | exact hn252_0) (.int .i64 t250)).trans hx252_0; (try have hy252_0 := fun (n_ : Nat) => (show (((w44.drewN n_).setCell ⟨gb238, 1, none⟩ (.int .i64 t250))).cell? _ = some _ from hx252_0)); clear hn252_0; replace p252 := eq_true p252; replace q252 := eq_true q252) | (go_at_call 48; (with_reducible refine (remontoirref17_number.calls kj22 (rdOf ByteArray.empty l0 2) t253 t254 _ A42.out).mono ?_); rintro e w47 ⟨rfl, hb⟩; have n0_ := mk0 (blk_below (obf BK237.out) hb); have n1_ := mk0 (blk_below (g := gb238) (o := .cells #[.int .i64 x239000_2, .int .i64 t250, .int .i64 0, .int .i64 0, .string (⟨#[]⟩ : ByteArray)] 40 (0, 0)) (by exact obk (blk_put (obk BK238.out) 1 _ rfl)) hb); have n2_ := mk0 (bst HB.out hb); clear BK237; clear BK238; clear HB; have BK237 := n0_; have BK238 := n1_; have HB := n2_; clear n0_ n1_ n2_; (try clear hb); obtain ⟨hcz48_0, hcz48_1, hcz48_2, hcz48_3, hcz48_4, hfz48_0, hfz48_1, hfz48_2, hfz48_3, hfz48_4⟩ := blk5 BK238.out; obtain ⟨hcz49_0, hcz49_1, hcz49_2, hcz49_3, hcz49_4, hfz49_0, hfz49_1, hfz49_2, hfz49_3, hfz49_4⟩ := blk5 BK237.out)); try go_wp2_with (first | (go_at_call 48; (with_reducible refine (remontoirref17_number.calls kj22 (rdOf ByteArray.empty l0 1) t250 true _ A39.out).mono ?_); rintro e w44 ⟨rfl, hb⟩; have n0_ := mk0 (blk_below (obk BK237.out) hb); have n1_ := mk0 (blk_below (obk BK238.out) hb); have n2_ := mk0 (bst HB.out hb); clear BK237; clear BK238; clear HB; have BK237 := n0_; have BK238 := n1_; have HB := n2_; clear n0_ n1_ n2_; (try clear hb); have hnb45 := NB238_237.out; have hnc45 := NB237_238.out; obtain ⟨hcz46_0, hcz46_1, hcz46_2, hcz46_3, hcz46_4, hfz46_0, hfz46_1, hfz46_2, hfz46_3, hfz46_4⟩ := blk5 BK238.out; have p252 : 0 ≤ (2 : Int) := (by omega); have q252 : 2 < (l0.length : Int) := of_decide_eq_true (by assumption); obtain ⟨ad252, e252, hx252_0⟩ := Kd.at_string HR0.out 2 p252 q252; obtain rfl : ad249 = ad252 := (by injection e252); (try simp only [show (2 : Int).toNat = 2 from rfl, Nat.reduceMul, Nat.reduceEqDiff, Go.Addr.add, ↓reduceIte] at hx252_0); have qi252 : (2 < l0.length) = True := eq_true (by omega); (try rw [show ((2 : Int)).toNat = 2 from rfl] at hx252_0); have hn252_0 : ad249.block ≠ gb238 := Nat.ne_of_lt (Nat.lt_of_lt_of_le (by have := World.block_lt_of_cell? _ _ hx252_0; first | rwa [add_block] at this | exact this) GW238.out); replace hx252_0 := (HB.out.cell (World.block_lt_of_cell? w _ hx252_0)).trans hx252_0; replace hx252_0 := (cell_far (p := ⟨gb238, 1, none⟩) (by first | (rw [add_block]; exact hn252_0) | (show (Addr.add _ _).block ≠ _; rw [add_block]; exact hn252_0) | exact hn252_0) (.int .i64 t250)).trans hx252_0; (try have hy252_0 := fun (n_ : Nat) => (show (((w44.drewN n_).setCell ⟨gb238, 1, none⟩ (.int .i64 t250))).cell? _ = some _ from hx252_0)); clear hn252_0; replace p252 := eq_true p252; replace q252 := eq_true q252) | (go_at_call 48; (with_reducible refine (remontoirref17_number.calls kj22 (rdOf ByteArray.empty l0 2) t253 t254 _ A42.out).mono ?_); rintro e w47 ⟨rfl, hb⟩; have n0_ := mk0 (blk_below (obf BK237.out) hb); have n1_ := mk0 (blk_below (g := gb238) (o := .cells #[.int .i64 x239000_2, .int .i64 t250, .int .i64 0, .int .i64 0, .string (⟨#[]⟩ : ByteArray)] 40 (0, 0)) (by exact obk (blk_put (obk BK238.out) 1 _ rfl)) hb); have n2_ := mk0 (bst HB.out hb); clear BK237; clear BK238; clear HB; have BK237 := n0_; have BK238 := n1_; have HB := n2_; clear n0_ n1_ n2_; (try clear hb); obtain ⟨hcz48_0, hcz48_1, hcz48_2, hcz48_3, hcz48_4, hfz48_0, hfz48_1, hfz48_2, hfz48_3, hfz48_4⟩ := blk5 BK238.out; obtain ⟨hcz49_0, hcz49_1, hcz49_2, hcz49_3, hcz49_4, hfz49_0, hfz49_1, hfz49_2, hfz49_3, hfz49_4⟩ := blk5 BK237.out)))
              refine bodyPost_ret (results_ct rfl _ _ gb237 40 #[.int .i64 x239000_2, .int .i64 t250, .int .i64 t253, .int .i64 0, .string (⟨#[]⟩ : ByteArray)] (0, 0) _ rfl (by exact obk (blk_put (obk (blk_put (obk (blk_put (obk (blk_put (obk (blk_put (obk (blkf (obk BK237.out) NB237_238.out)) 0 _ rfl)) 1 _ rfl)) 2 _ rfl)) 3 _ rfl)) 4 _ rfl)) Tryd.underlying40 rfl (by kernel_rfl)) rfl ?_
              exact ⟨by first | rfl | (simp [*, errW_none, errW_some] <;> rfl), by exact bok HB.out⟩
             ·
              replace c43 := Bool.eq_false_iff.mpr c43
              subst c43
              have H1 : (some (x239000_2, t250, t253, 0, (⟨#[]⟩ : ByteArray), false)) = some (r1, r2, r3, r4, r5, r6) := by rw [if_neg (show ¬ (false = true) by decide)] at H; exact H
              clear H
              have H := H1
              clear H1
              simp only [Option.some.injEq, Prod.mk.injEq] at H
              obtain ⟨rfl, rfl, rfl, rfl, rfl, rfl⟩ := H
              have p249 : 0 ≤ (1 : Int) := (by omega)
              have q249 : 1 < (l0.length : Int) := of_decide_eq_true (by assumption)
              obtain ⟨ad249, e249, hx249_0⟩ := Kd.at_string HR0.out 1 p249 q249
              cases e249
              (try simp only [show (1 : Int).toNat = 1 from rfl, Nat.reduceMul, Nat.reduceEqDiff, Go.Addr.add, ↓reduceIte] at hx249_0)
              have qi249 : (1 < l0.length) = True := eq_true (by omega)
              (try rw [show ((1 : Int)).toNat = 1 from rfl] at hx249_0)
              replace hx249_0 := (HB.out.cell (World.block_lt_of_cell? w _ hx249_0)).trans hx249_0
              replace p249 := eq_true p249
              replace q249 := eq_true q249
              go_wp2_with (first | (go_at_call 48; (with_reducible refine (remontoirref17_number.calls kj22 (rdOf ByteArray.empty l0 1) t250 false _ A39.out).mono ?_); rintro e w50 ⟨rfl, hb⟩; have n0_ := mk0 (blk_below (obk BK237.out) hb); have n1_ := mk0 (blk_below (obk BK238.out) hb); have n2_ := mk0 (bst HB.out hb); clear BK237; clear BK238; clear HB; have BK237 := n0_; have BK238 := n1_; have HB := n2_; clear n0_ n1_ n2_; (try clear hb); have hnb51 := NB238_237.out; have hnc51 := NB237_238.out; obtain ⟨hcz52_0, hcz52_1, hcz52_2, hcz52_3, hcz52_4, hfz52_0, hfz52_1, hfz52_2, hfz52_3, hfz52_4⟩ := blk5 BK238.out; have p252 : 0 ≤ (2 : Int) := (by omega); have q252 : 2 < (l0.length : Int) := of_decide_eq_true (by assumption); obtain ⟨ad252, e252, hx252_0⟩ := Kd.at_string HR0.out 2 p252 q252; obtain rfl : ad249 = ad252 := (by injection e252); (try simp only [show (2 : Int).toNat = 2 from rfl, Nat.reduceMul, Nat.reduceEqDiff, Go.Addr.add, ↓reduceIte] at hx252_0); have qi252 : (2 < l0.length) = True := eq_true (by omega); (try rw [show ((2 : Int)).toNat = 2 from rfl] at hx252_0); have hn252_0 : ad249.block ≠ gb238 := Nat.ne_of_lt (Nat.lt_of_lt_of_le (by have := World.block_lt_of_cell? _ _ hx252_0; first | rwa [add_block] at this | exact this) GW238.out); replace hx252_0 := (HB.out.cell (World.block_lt_of_cell? w _ hx252_0)).trans hx252_0; replace hx252_0 := (cell_far (p := ⟨gb238, 1, none⟩) (by first | (rw [add_block]; exact hn252_0) | (show (Addr.add _ _).block ≠ _; rw [add_block]; exact hn252_0) | exact hn252_0) (.int .i64 t250)).trans hx252_0; (try have hy252_0 := fun (n_ : Nat) => (show (((w50.drewN n_).setCell ⟨gb238, 1, none⟩ (.int .i64 t250))).cell? _ = some _ from hx252_0)); clear hn252_0; replace p252 := eq_true p252; replace q252 := eq_true q252) | (go_at_call 48; (with_reducible refine (remontoirref17_number.calls kj22 (rdOf ByteArray.empty l0 2) t253 t254 _ A42.out).mono ?_); rintro e w53 ⟨rfl, hb⟩; have n0_ := mk0 (blk_below (obf BK237.out) hb); have n1_ := mk0 (blk_below (g := gb238) (o := .cells #[.int .i64 x239000_2, .int .i64 t250, .int .i64 0, .int .i64 0, .string (⟨#[]⟩ : ByteArray)] 40 (0, 0)) (by exact obk (blk_put (obk BK238.out) 1 _ rfl)) hb); have n2_ := mk0 (bst HB.out hb); clear BK237; clear BK238; clear HB; have BK237 := n0_; have BK238 := n1_; have HB := n2_; clear n0_ n1_ n2_; (try clear hb); obtain ⟨hcz54_0, hcz54_1, hcz54_2, hcz54_3, hcz54_4, hfz54_0, hfz54_1, hfz54_2, hfz54_3, hfz54_4⟩ := blk5 BK238.out; obtain ⟨hcz55_0, hcz55_1, hcz55_2, hcz55_3, hcz55_4, hfz55_0, hfz55_1, hfz55_2, hfz55_3, hfz55_4⟩ := blk5 BK237.out))
              repeat (go_quiet (first | (go_at_call 48; (with_reducible refine (remontoirref17_number.calls kj22 (rdOf ByteArray.empty l0 1) t250 false _ A39.out).mono ?_); rintro e w50 ⟨rfl, hb⟩; have n0_ := mk0 (blk_below (obk BK237.out) hb); have n1_ := mk0 (blk_below (obk BK238.out) hb); have n2_ := mk0 (bst HB.out hb); clear BK237; clear BK238; clear HB; have BK237 := n0_; have BK238 := n1_; have HB := n2_; clear n0_ n1_ n2_; (try clear hb); have hnb51 := NB238_237.out; have hnc51 := NB237_238.out; obtain ⟨hcz52_0, hcz52_1, hcz52_2, hcz52_3, hcz52_4, hfz52_0, hfz52_1, hfz52_2, hfz52_3, hfz52_4⟩ := blk5 BK238.out; have p252 : 0 ≤ (2 : Int) := (by omega); have q252 : 2 < (l0.length : Int) := of_decide_eq_true (by assumption); obtain ⟨ad252, e252, hx252_0⟩ := Kd.at_string HR0.out 2 p252 q252; obtain rfl : ad249 = ad252 := (by injection e252); (try simp only [show (2 : Int).toNat = 2 from rfl, Nat.reduceMul, Nat.reduceEqDiff, Go.Addr.add, ↓reduceIte] at hx252_0); have qi252 : (2 < l0.length) = True := eq_true (by omega); (try rw [show ((2 : Int)).toNat = 2 from rfl] at hx252_0); have hn252_0 : ad249.block ≠ gb238 := Nat.ne_of_lt (Nat.lt_of_lt_of_le (by have := World.block_lt_of_cell? _ _ hx252_0; first | rwa [add_block] at this | exact this) GW238.out); replace hx252_0 := (HB.out.cell (World.block_lt_of_cell? w _ hx252_0)).trans hx252_0; replace hx252_0 := (cell_far (p := ⟨gb238, 1, none⟩) (by first | (rw [add_block]; exact hn252_0) | (show (Addr.add _ _).block ≠ _; rw [add_block]; exact hn252_0) | exact hn252_0) (.int .i64 t250)).trans hx252_0; (try have hy252_0 := fun (n_ : Nat) => (show (((w50.drewN n_).setCell ⟨gb238, 1, none⟩ (.int .i64 t250))).cell? _ = some _ from hx252_0)); clear hn252_0; replace p252 := eq_true p252; replace q252 := eq_true q252) | (go_at_call 48; (with_reducible refine (remontoirref17_number.calls kj22 (rdOf ByteArray.empty l0 2) t253 t254 _ A42.out).mono ?_); rintro e w53 ⟨rfl, hb⟩; have n0_ := mk0 (blk_below (obf BK237.out) hb); have n1_ := mk0 (blk_below (g := gb238) (o := .cells #[.int .i64 x239000_2, .int .i64 t250, .int .i64 0, .int .i64 0, .string (⟨#[]⟩ : ByteArray)] 40 (0, 0)) (by exact obk (blk_put (obk BK238.out) 1 _ rfl)) hb); have n2_ := mk0 (bst HB.out hb); clear BK237; clear BK238; clear HB; have BK237 := n0_; have BK238 := n1_; have HB := n2_; clear n0_ n1_ n2_; (try clear hb); obtain ⟨hcz54_0, hcz54_1, hcz54_2, hcz54_3, hcz54_4, hfz54_0, hfz54_1, hfz54_2, hfz54_3, hfz54_4⟩ := blk5 BK238.out; obtain ⟨hcz55_0, hcz55_1, hcz55_2, hcz55_3, hcz55_4, hfz55_0, hfz55_1, hfz55_2, hfz55_3, hfz55_4⟩ := blk5 BK237.out)); try go_wp2_with (first | (go_at_call 48; (with_reducible refine (remontoirref17_number.calls kj22 (rdOf ByteArray.empty l0 1) t250 false _ A39.out).mono ?_); rintro e w50 ⟨rfl, hb⟩; have n0_ := mk0 (blk_below (obk BK237.out) hb); have n1_ := mk0 (blk_below (obk BK238.out) hb); have n2_ := mk0 (bst HB.out hb); clear BK237; clear BK238; clear HB; have BK237 := n0_; have BK238 := n1_; have HB := n2_; clear n0_ n1_ n2_; (try clear hb); have hnb51 := NB238_237.out; have hnc51 := NB237_238.out; obtain ⟨hcz52_0, hcz52_1, hcz52_2, hcz52_3, hcz52_4, hfz52_0, hfz52_1, hfz52_2, hfz52_3, hfz52_4⟩ := blk5 BK238.out; have p252 : 0 ≤ (2 : Int) := (by omega); have q252 : 2 < (l0.length : Int) := of_decide_eq_true (by assumption); obtain ⟨ad252, e252, hx252_0⟩ := Kd.at_string HR0.out 2 p252 q252; obtain rfl : ad249 = ad252 := (by injection e252); (try simp only [show (2 : Int).toNat = 2 from rfl, Nat.reduceMul, Nat.reduceEqDiff, Go.Addr.add, ↓reduceIte] at hx252_0); have qi252 : (2 < l0.length) = True := eq_true (by omega); (try rw [show ((2 : Int)).toNat = 2 from rfl] at hx252_0); have hn252_0 : ad249.block ≠ gb238 := Nat.ne_of_lt (Nat.lt_of_lt_of_le (by have := World.block_lt_of_cell? _ _ hx252_0; first | rwa [add_block] at this | exact this) GW238.out); replace hx252_0 := (HB.out.cell (World.block_lt_of_cell? w _ hx252_0)).trans hx252_0; replace hx252_0 := (cell_far (p := ⟨gb238, 1, none⟩) (by first | (rw [add_block]; exact hn252_0) | (show (Addr.add _ _).block ≠ _; rw [add_block]; exact hn252_0) | exact hn252_0) (.int .i64 t250)).trans hx252_0; (try have hy252_0 := fun (n_ : Nat) => (show (((w50.drewN n_).setCell ⟨gb238, 1, none⟩ (.int .i64 t250))).cell? _ = some _ from hx252_0)); clear hn252_0; replace p252 := eq_true p252; replace q252 := eq_true q252) | (go_at_call 48; (with_reducible refine (remontoirref17_number.calls kj22 (rdOf ByteArray.empty l0 2) t253 t254 _ A42.out).mono ?_); rintro e w53 ⟨rfl, hb⟩; have n0_ := mk0 (blk_below (obf BK237.out) hb); have n1_ := mk0 (blk_below (g := gb238) (o := .cells #[.int .i64 x239000_2, .int .i64 t250, .int .i64 0, .int .i64 0, .string (⟨#[]⟩ : ByteArray)] 40 (0, 0)) (by exact obk (blk_put (obk BK238.out) 1 _ rfl)) hb); have n2_ := mk0 (bst HB.out hb); clear BK237; clear BK238; clear HB; have BK237 := n0_; have BK238 := n1_; have HB := n2_; clear n0_ n1_ n2_; (try clear hb); obtain ⟨hcz54_0, hcz54_1, hcz54_2, hcz54_3, hcz54_4, hfz54_0, hfz54_1, hfz54_2, hfz54_3, hfz54_4⟩ := blk5 BK238.out; obtain ⟨hcz55_0, hcz55_1, hcz55_2, hcz55_3, hcz55_4, hfz55_0, hfz55_1, hfz55_2, hfz55_3, hfz55_4⟩ := blk5 BK237.out)))
              refine bodyPost_ret (results_ct rfl _ _ gb237 40 #[.int .i64 x239000_2, .int .i64 t250, .int .i64 t253, .int .i64 0, .string (⟨#[]⟩ : ByteArray)] (0, 0) _ rfl (by exact obk (blk_put (obk (blk_put (obk (blk_put (obk (blk_put (obk (blk_put (obk (blkf (obk BK237.out) NB237_238.out)) 0 _ rfl)) 1 _ rfl)) 2 _ rfl)) 3 _ rfl)) 4 _ rfl)) Tryd.underlying40 rfl (by kernel_rfl)) rfl ?_
              exact ⟨by first | rfl | (simp [*, errW_none, errW_some] <;> rfl), by exact bok HB.out⟩
            ·
             rw [if_neg c41] at H
             exact absurd H (by simp)
           ·
            rw [if_neg c40] at H
            have c40b0 : (x239000_2 == 3) = false := beq_eq_false_iff_ne.mpr c40
            have c40b1 : (x239000_2 != 3) = true := bne_iff_ne.mpr c40
            by_cases c56 : x239000_2 = 4
            ·
             rw [if_pos c56] at H
             have c56b0 : (x239000_2 == 4) = true := beq_iff_eq.mpr c56
             have c56b1 : (x239000_2 != 4) = false := bne_eq_false_iff_eq.mpr c56
             clear c56
             by_cases c57 : 2 < (l0.length : Int)
             ·
              rw [if_pos c57] at H
              have c57b0 : decide (2 < (l0.length : Int)) = true := decide_eq_true c57
              have c57b1 : decide (2 < l0.length) = true := decide_eq_true (by omega)
              clear c57
              simp only [Option.some.injEq, Prod.mk.injEq] at H
              obtain ⟨rfl, rfl, rfl, rfl, rfl, rfl⟩ := H
              have p249 : 0 ≤ (1 : Int) := (by omega)
              have q249 : 1 < (l0.length : Int) := of_decide_eq_true (by assumption)
              obtain ⟨ad249, e249, hx249_0⟩ := Kd.at_string HR0.out 1 p249 q249
              cases e249
              (try simp only [show (1 : Int).toNat = 1 from rfl, Nat.reduceMul, Nat.reduceEqDiff, Go.Addr.add, ↓reduceIte] at hx249_0)
              have qi249 : (1 < l0.length) = True := eq_true (by omega)
              (try rw [show ((1 : Int)).toNat = 1 from rfl] at hx249_0)
              replace hx249_0 := (HB.out.cell (World.block_lt_of_cell? w _ hx249_0)).trans hx249_0
              replace p249 := eq_true p249
              replace q249 := eq_true q249
              go_wp2_with (first | (go_at_call 48; (with_reducible refine (remontoirref17_number.calls kj22 (rdOf ByteArray.empty l0 1) t250 t251 _ A39.out).mono ?_); rintro e w58 ⟨rfl, hb⟩; have n0_ := mk0 (blk_below (obk BK237.out) hb); have n1_ := mk0 (blk_below (obk BK238.out) hb); have n2_ := mk0 (bst HB.out hb); clear BK237; clear BK238; clear HB; have BK237 := n0_; have BK238 := n1_; have HB := n2_; clear n0_ n1_ n2_; (try clear hb); have hnb59 := NB238_237.out; have hnc59 := NB237_238.out; obtain ⟨hcz60_0, hcz60_1, hcz60_2, hcz60_3, hcz60_4, hfz60_0, hfz60_1, hfz60_2, hfz60_3, hfz60_4⟩ := blk5 BK238.out; have p255 : 0 ≤ (2 : Int) := (by omega); have q255 : 2 < (l0.length : Int) := of_decide_eq_true (by assumption); obtain ⟨ad255, e255, hx255_0⟩ := Kd.at_string HR0.out 2 p255 q255; obtain rfl : ad249 = ad255 := (by injection e255); (try simp only [show (2 : Int).toNat = 2 from rfl, Nat.reduceMul, Nat.reduceEqDiff, Go.Addr.add, ↓reduceIte] at hx255_0); have qi255 : (2 < l0.length) = True := eq_true (by omega); (try rw [show ((2 : Int)).toNat = 2 from rfl] at hx255_0); have hn255_0 : ad249.block ≠ gb238 := Nat.ne_of_lt (Nat.lt_of_lt_of_le (by have := World.block_lt_of_cell? _ _ hx255_0; first | rwa [add_block] at this | exact this) GW238.out); replace hx255_0 := (HB.out.cell (World.block_lt_of_cell? w _ hx255_0)).trans hx255_0; replace hx255_0 := (cell_far (p := ⟨gb238, 1, none⟩) (by first | (rw [add_block]; exact hn255_0) | (show (Addr.add _ _).block ≠ _; rw [add_block]; exact hn255_0) | exact hn255_0) (.int .i64 t250)).trans hx255_0; (try have hy255_0 := fun (n_ : Nat) => (show (((w58.drewN n_).setCell ⟨gb238, 1, none⟩ (.int .i64 t250))).cell? _ = some _ from hx255_0)); clear hn255_0; replace p255 := eq_true p255; replace q255 := eq_true q255; obtain ⟨hcz61_0, hcz61_1, hcz61_2, hcz61_3, hcz61_4, hfz61_0, hfz61_1, hfz61_2, hfz61_3, hfz61_4⟩ := blk5 BK237.out))
              repeat (go_quiet (first | (go_at_call 48; (with_reducible refine (remontoirref17_number.calls kj22 (rdOf ByteArray.empty l0 1) t250 t251 _ A39.out).mono ?_); rintro e w58 ⟨rfl, hb⟩; have n0_ := mk0 (blk_below (obk BK237.out) hb); have n1_ := mk0 (blk_below (obk BK238.out) hb); have n2_ := mk0 (bst HB.out hb); clear BK237; clear BK238; clear HB; have BK237 := n0_; have BK238 := n1_; have HB := n2_; clear n0_ n1_ n2_; (try clear hb); have hnb59 := NB238_237.out; have hnc59 := NB237_238.out; obtain ⟨hcz60_0, hcz60_1, hcz60_2, hcz60_3, hcz60_4, hfz60_0, hfz60_1, hfz60_2, hfz60_3, hfz60_4⟩ := blk5 BK238.out; have p255 : 0 ≤ (2 : Int) := (by omega); have q255 : 2 < (l0.length : Int) := of_decide_eq_true (by assumption); obtain ⟨ad255, e255, hx255_0⟩ := Kd.at_string HR0.out 2 p255 q255; obtain rfl : ad249 = ad255 := (by injection e255); (try simp only [show (2 : Int).toNat = 2 from rfl, Nat.reduceMul, Nat.reduceEqDiff, Go.Addr.add, ↓reduceIte] at hx255_0); have qi255 : (2 < l0.length) = True := eq_true (by omega); (try rw [show ((2 : Int)).toNat = 2 from rfl] at hx255_0); have hn255_0 : ad249.block ≠ gb238 := Nat.ne_of_lt (Nat.lt_of_lt_of_le (by have := World.block_lt_of_cell? _ _ hx255_0; first | rwa [add_block] at this | exact this) GW238.out); replace hx255_0 := (HB.out.cell (World.block_lt_of_cell? w _ hx255_0)).trans hx255_0; replace hx255_0 := (cell_far (p := ⟨gb238, 1, none⟩) (by first | (rw [add_block]; exact hn255_0) | (show (Addr.add _ _).block ≠ _; rw [add_block]; exact hn255_0) | exact hn255_0) (.int .i64 t250)).trans hx255_0; (try have hy255_0 := fun (n_ : Nat) => (show (((w58.drewN n_).setCell ⟨gb238, 1, none⟩ (.int .i64 t250))).cell? _ = some _ from hx255_0)); clear hn255_0; replace p255 := eq_true p255; replace q255 := eq_true q255; obtain ⟨hcz61_0, hcz61_1, hcz61_2, hcz61_3, hcz61_4, hfz61_0, hfz61_1, hfz61_2, hfz61_3, hfz61_4⟩ := blk5 BK237.out)); try go_wp2_with (first | (go_at_call 48; (with_reducible refine (remontoirref17_number.calls kj22 (rdOf ByteArray.empty l0 1) t250 t251 _ A39.out).mono ?_); rintro e w58 ⟨rfl, hb⟩; have n0_ := mk0 (blk_below (obk BK237.out) hb); have n1_ := mk0 (blk_below (obk BK238.out) hb); have n2_ := mk0 (bst HB.out hb); clear BK237; clear BK238; clear HB; have BK237 := n0_; have BK238 := n1_; have HB := n2_; clear n0_ n1_ n2_; (try clear hb); have hnb59 := NB238_237.out; have hnc59 := NB237_238.out; obtain ⟨hcz60_0, hcz60_1, hcz60_2, hcz60_3, hcz60_4, hfz60_0, hfz60_1, hfz60_2, hfz60_3, hfz60_4⟩ := blk5 BK238.out; have p255 : 0 ≤ (2 : Int) := (by omega); have q255 : 2 < (l0.length : Int) := of_decide_eq_true (by assumption); obtain ⟨ad255, e255, hx255_0⟩ := Kd.at_string HR0.out 2 p255 q255; obtain rfl : ad249 = ad255 := (by injection e255); (try simp only [show (2 : Int).toNat = 2 from rfl, Nat.reduceMul, Nat.reduceEqDiff, Go.Addr.add, ↓reduceIte] at hx255_0); have qi255 : (2 < l0.length) = True := eq_true (by omega); (try rw [show ((2 : Int)).toNat = 2 from rfl] at hx255_0); have hn255_0 : ad249.block ≠ gb238 := Nat.ne_of_lt (Nat.lt_of_lt_of_le (by have := World.block_lt_of_cell? _ _ hx255_0; first | rwa [add_block] at this | exact this) GW238.out); replace hx255_0 := (HB.out.cell (World.block_lt_of_cell? w _ hx255_0)).trans hx255_0; replace hx255_0 := (cell_far (p := ⟨gb238, 1, none⟩) (by first | (rw [add_block]; exact hn255_0) | (show (Addr.add _ _).block ≠ _; rw [add_block]; exact hn255_0) | exact hn255_0) (.int .i64 t250)).trans hx255_0; (try have hy255_0 := fun (n_ : Nat) => (show (((w58.drewN n_).setCell ⟨gb238, 1, none⟩ (.int .i64 t250))).cell? _ = some _ from hx255_0)); clear hn255_0; replace p255 := eq_true p255; replace q255 := eq_true q255; obtain ⟨hcz61_0, hcz61_1, hcz61_2, hcz61_3, hcz61_4, hfz61_0, hfz61_1, hfz61_2, hfz61_3, hfz61_4⟩ := blk5 BK237.out)))
              refine bodyPost_ret (results_ct rfl _ _ gb237 40 #[.int .i64 x239000_2, .int .i64 t250, .int .i64 0, .int .i64 0, .string (rdOf ByteArray.empty l0 2)] (0, 0) _ rfl (by exact obk (blk_put (obk (blk_put (obk (blk_put (obk (blk_put (obk (blk_put (obk (blkf (obk (blkf (obk BK237.out) NB237_238.out)) NB237_238.out)) 0 _ rfl)) 1 _ rfl)) 2 _ rfl)) 3 _ rfl)) 4 _ rfl)) Tryd.underlying40 rfl (by kernel_rfl)) rfl ?_
              exact ⟨by first | rfl | (simp [*, errW_none, errW_some] <;> rfl), by exact bok HB.out⟩
             ·
              rw [if_neg c57] at H
              exact absurd H (by simp)
            ·
             rw [if_neg c56] at H
             have c56b0 : (x239000_2 == 4) = false := beq_eq_false_iff_ne.mpr c56
             have c56b1 : (x239000_2 != 4) = true := bne_iff_ne.mpr c56
             by_cases c62 : x239000_2 = 8
             ·
              rw [if_pos c62] at H
              have c62b0 : (x239000_2 == 8) = true := beq_iff_eq.mpr c62
              have c62b1 : (x239000_2 != 8) = false := bne_eq_false_iff_eq.mpr c62
              clear c62
              by_cases c63 : 2 < (l0.length : Int)
              ·
               rw [if_pos c63] at H
               have c63b0 : decide (2 < (l0.length : Int)) = true := decide_eq_true c63
               have c63b1 : decide (2 < l0.length) = true := decide_eq_true (by omega)
               clear c63
               replace H := Option.bind_eq_some_iff.mp H
               obtain ⟨⟨t257, t258⟩, A640, H⟩ := H
               replace H : (if 3 < (l0.length : Int) then (if t251 = true then (some (x239000_2, t250, 0, t257, rdOf ByteArray.empty l0 3, t258)) else (some (x239000_2, t250, 0, t257, rdOf ByteArray.empty l0 3, false))) else (none)) = some (r1, r2, r3, r4, r5, r6) := H
               have A64 := mk0 A640
               clear A640
               by_cases c65 : 3 < (l0.length : Int)
               ·
                rw [if_pos c65] at H
                have c65b0 : decide (3 < (l0.length : Int)) = true := decide_eq_true c65
                have c65b1 : decide (3 < l0.length) = true := decide_eq_true (by omega)
                clear c65
                by_cases c66 : t251 = true
                ·
                 subst c66
                 have H1 : (some (x239000_2, t250, 0, t257, rdOf ByteArray.empty l0 3, t258)) = some (r1, r2, r3, r4, r5, r6) := by rw [if_pos rfl] at H; exact H
                 clear H
                 have H := H1
                 clear H1
                 simp only [Option.some.injEq, Prod.mk.injEq] at H
                 obtain ⟨rfl, rfl, rfl, rfl, rfl, rfl⟩ := H
                 have p249 : 0 ≤ (1 : Int) := (by omega)
                 have q249 : 1 < (l0.length : Int) := of_decide_eq_true (by assumption)
                 obtain ⟨ad249, e249, hx249_0⟩ := Kd.at_string HR0.out 1 p249 q249
                 cases e249
                 (try simp only [show (1 : Int).toNat = 1 from rfl, Nat.reduceMul, Nat.reduceEqDiff, Go.Addr.add, ↓reduceIte] at hx249_0)
                 have qi249 : (1 < l0.length) = True := eq_true (by omega)
                 (try rw [show ((1 : Int)).toNat = 1 from rfl] at hx249_0)
                 replace hx249_0 := (HB.out.cell (World.block_lt_of_cell? w _ hx249_0)).trans hx249_0
                 replace p249 := eq_true p249
                 replace q249 := eq_true q249
                 go_wp2_with (first | (go_at_call 48; (with_reducible refine (remontoirref17_number.calls kj22 (rdOf ByteArray.empty l0 1) t250 true _ A39.out).mono ?_); rintro e w67 ⟨rfl, hb⟩; have n0_ := mk0 (blk_below (obk BK237.out) hb); have n1_ := mk0 (blk_below (obk BK238.out) hb); have n2_ := mk0 (bst HB.out hb); clear BK237; clear BK238; clear HB; have BK237 := n0_; have BK238 := n1_; have HB := n2_; clear n0_ n1_ n2_; (try clear hb); have hnb68 := NB238_237.out; have hnc68 := NB237_238.out; obtain ⟨hcz69_0, hcz69_1, hcz69_2, hcz69_3, hcz69_4, hfz69_0, hfz69_1, hfz69_2, hfz69_3, hfz69_4⟩ := blk5 BK238.out; have p256 : 0 ≤ (2 : Int) := (by omega); have q256 : 2 < (l0.length : Int) := of_decide_eq_true (by assumption); obtain ⟨ad256, e256, hx256_0⟩ := Kd.at_string HR0.out 2 p256 q256; obtain rfl : ad249 = ad256 := (by injection e256); (try simp only [show (2 : Int).toNat = 2 from rfl, Nat.reduceMul, Nat.reduceEqDiff, Go.Addr.add, ↓reduceIte] at hx256_0); have qi256 : (2 < l0.length) = True := eq_true (by omega); (try rw [show ((2 : Int)).toNat = 2 from rfl] at hx256_0); have hn256_0 : ad249.block ≠ gb238 := Nat.ne_of_lt (Nat.lt_of_lt_of_le (by have := World.block_lt_of_cell? _ _ hx256_0; first | rwa [add_block] at this | exact this) GW238.out); replace hx256_0 := (HB.out.cell (World.block_lt_of_cell? w _ hx256_0)).trans hx256_0; replace hx256_0 := (cell_far (p := ⟨gb238, 1, none⟩) (by first | (rw [add_block]; exact hn256_0) | (show (Addr.add _ _).block ≠ _; rw [add_block]; exact hn256_0) | exact hn256_0) (.int .i64 t250)).trans hx256_0; (try have hy256_0 := fun (n_ : Nat) => (show (((w67.drewN n_).setCell ⟨gb238, 1, none⟩ (.int .i64 t250))).cell? _ = some _ from hx256_0)); clear hn256_0; replace p256 := eq_true p256; replace q256 := eq_true q256) | (go_at_call 48; (with_reducible refine (remontoirref17_number.calls kj22 (rdOf ByteArray.empty l0 2) t257 t258 _ A64.out).mono ?_); rintro e w70 ⟨rfl, hb⟩; have n0_ := mk0 (blk_below (obf BK237.out) hb); have n1_ := mk0 (blk_below (g := gb238) (o := .cells #[.int .i64 x239000_2, .int .i64 t250, .int .i64 0, .int .i64 0, .string (⟨#[]⟩ : ByteArray)] 40 (0, 0)) (by exact obk (blk_put (obk BK238.out) 1 _ rfl)) hb); have n2_ := mk0 (bst HB.out hb); clear BK237; clear BK238; clear HB; have BK237 := n0_; have BK238 := n1_; have HB := n2_; clear n0_ n1_ n2_; (try clear hb); obtain ⟨hcz71_0, hcz71_1, hcz71_2, hcz71_3, hcz71_4, hfz71_0, hfz71_1, hfz71_2, hfz71_3, hfz71_4⟩ := blk5 BK238.out; have p259 : 0 ≤ (3 : Int) := (by omega); have q259 : 3 < (l0.length : Int) := of_decide_eq_true (by assumption); obtain ⟨ad259, e259, hx259_0⟩ := Kd.at_string HR0.out 3 p259 q259; obtain rfl : ad249 = ad259 := (by injection e259); (try simp only [show (3 : Int).toNat = 3 from rfl, Nat.reduceMul, Nat.reduceEqDiff, Go.Addr.add, ↓reduceIte] at hx259_0); have qi259 : (3 < l0.length) = True := eq_true (by omega); (try rw [show ((3 : Int)).toNat = 3 from rfl] at hx259_0); have hn259_0 : ad249.block ≠ gb238 := Nat.ne_of_lt (Nat.lt_of_lt_of_le (by have := World.block_lt_of_cell? _ _ hx259_0; first | rwa [add_block] at this | exact this) GW238.out); replace hx259_0 := (HB.out.cell (World.block_lt_of_cell? w _ hx259_0)).trans hx259_0; replace hx259_0 := (cell_far (p := ⟨gb238, 3, none⟩) (by first | (rw [add_block]; exact hn259_0) | (show (Addr.add _ _).block ≠ _; rw [add_block]; exact hn259_0) | exact hn259_0) (.int .i64 t257)).trans hx259_0; (try have hy259_0 := fun (n_ : Nat) => (show (((w70.drewN n_).setCell ⟨gb238, 3, none⟩ (.int .i64 t257))).cell? _ = some _ from hx259_0)); clear hn259_0; replace p259 := eq_true p259; replace q259 := eq_true q259; obtain ⟨hcz72_0, hcz72_1, hcz72_2, hcz72_3, hcz72_4, hfz72_0, hfz72_1, hfz72_2, hfz72_3, hfz72_4⟩ := blk5 BK237.out))
                 repeat (go_quiet (first | (go_at_call 48; (with_reducible refine (remontoirref17_number.calls kj22 (rdOf ByteArray.empty l0 1) t250 true _ A39.out).mono ?_); rintro e w67 ⟨rfl, hb⟩; have n0_ := mk0 (blk_below (obk BK237.out) hb); have n1_ := mk0 (blk_below (obk BK238.out) hb); have n2_ := mk0 (bst HB.out hb); clear BK237; clear BK238; clear HB; have BK237 := n0_; have BK238 := n1_; have HB := n2_; clear n0_ n1_ n2_; (try clear hb); have hnb68 := NB238_237.out; have hnc68 := NB237_238.out; obtain ⟨hcz69_0, hcz69_1, hcz69_2, hcz69_3, hcz69_4, hfz69_0, hfz69_1, hfz69_2, hfz69_3, hfz69_4⟩ := blk5 BK238.out; have p256 : 0 ≤ (2 : Int) := (by omega); have q256 : 2 < (l0.length : Int) := of_decide_eq_true (by assumption); obtain ⟨ad256, e256, hx256_0⟩ := Kd.at_string HR0.out 2 p256 q256; obtain rfl : ad249 = ad256 := (by injection e256); (try simp only [show (2 : Int).toNat = 2 from rfl, Nat.reduceMul, Nat.reduceEqDiff, Go.Addr.add, ↓reduceIte] at hx256_0); have qi256 : (2 < l0.length) = True := eq_true (by omega); (try rw [show ((2 : Int)).toNat = 2 from rfl] at hx256_0); have hn256_0 : ad249.block ≠ gb238 := Nat.ne_of_lt (Nat.lt_of_lt_of_le (by have := World.block_lt_of_cell? _ _ hx256_0; first | rwa [add_block] at this | exact this) GW238.out); replace hx256_0 := (HB.out.cell (World.block_lt_of_cell? w _ hx256_0)).trans hx256_0; replace hx256_0 := (cell_far (p := ⟨gb238, 1, none⟩) (by first | (rw [add_block]; exact hn256_0) | (show (Addr.add _ _).block ≠ _; rw [add_block]; exact hn256_0) | exact hn256_0) (.int .i64 t250)).trans hx256_0; (try have hy256_0 := fun (n_ : Nat) => (show (((w67.drewN n_).setCell ⟨gb238, 1, none⟩ (.int .i64 t250))).cell? _ = some _ from hx256_0)); clear hn256_0; replace p256 := eq_true p256; replace q256 := eq_true q256) | (go_at_call 48; (with_reducible refine (remontoirref17_number.calls kj22 (rdOf ByteArray.empty l0 2) t257 t258 _ A64.out).mono ?_); rintro e w70 ⟨rfl, hb⟩; have n0_ := mk0 (blk_below (obf BK237.out) hb); have n1_ := mk0 (blk_below (g := gb238) (o := .cells #[.int .i64 x239000_2, .int .i64 t250, .int .i64 0, .int .i64 0, .string (⟨#[]⟩ : ByteArray)] 40 (0, 0)) (by exact obk (blk_put (obk BK238.out) 1 _ rfl)) hb); have n2_ := mk0 (bst HB.out hb); clear BK237; clear BK238; clear HB; have BK237 := n0_; have BK238 := n1_; have HB := n2_; clear n0_ n1_ n2_; (try clear hb); obtain ⟨hcz71_0, hcz71_1, hcz71_2, hcz71_3, hcz71_4, hfz71_0, hfz71_1, hfz71_2, hfz71_3, hfz71_4⟩ := blk5 BK238.out; have p259 : 0 ≤ (3 : Int) := (by omega); have q259 : 3 < (l0.length : Int) := of_decide_eq_true (by assumption); obtain ⟨ad259, e259, hx259_0⟩ := Kd.at_string HR0.out 3 p259 q259; obtain rfl : ad249 = ad259 := (by injection e259); (try simp only [show (3 : Int).toNat = 3 from rfl, Nat.reduceMul, Nat.reduceEqDiff, Go.Addr.add, ↓reduceIte] at hx259_0); have qi259 : (3 < l0.length) = True := eq_true (by omega); (try rw [show ((3 : Int)).toNat = 3 from rfl] at hx259_0); have hn259_0 : ad249.block ≠ gb238 := Nat.ne_of_lt (Nat.lt_of_lt_of_le (by have := World.block_lt_of_cell? _ _ hx259_0; first | rwa [add_block] at this | exact this) GW238.out); replace hx259_0 := (HB.out.cell (World.block_lt_of_cell? w _ hx259_0)).trans hx259_0; replace hx259_0 := (cell_far (p := ⟨gb238, 3, none⟩) (by first | (rw [add_block]; exact hn259_0) | (show (Addr.add _ _).block ≠ _; rw [add_block]; exact hn259_0) | exact hn259_0) (.int .i64 t257)).trans hx259_0; (try have hy259_0 := fun (n_ : Nat) => (show (((w70.drewN n_).setCell ⟨gb238, 3, none⟩ (.int .i64 t257))).cell? _ = some _ from hx259_0)); clear hn259_0; replace p259 := eq_true p259; replace q259 := eq_true q259; obtain ⟨hcz72_0, hcz72_1, hcz72_2, hcz72_3, hcz72_4, hfz72_0, hfz72_1, hfz72_2, hfz72_3, hfz72_4⟩ := blk5 BK237.out)); try go_wp2_with (first | (go_at_call 48; (with_reducible refine (remontoirref17_number.calls kj22 (rdOf ByteArray.empty l0 1) t250 true _ A39.out).mono ?_); rintro e w67 ⟨rfl, hb⟩; have n0_ := mk0 (blk_below (obk BK237.out) hb); have n1_ := mk0 (blk_below (obk BK238.out) hb); have n2_ := mk0 (bst HB.out hb); clear BK237; clear BK238; clear HB; have BK237 := n0_; have BK238 := n1_; have HB := n2_; clear n0_ n1_ n2_; (try clear hb); have hnb68 := NB238_237.out; have hnc68 := NB237_238.out; obtain ⟨hcz69_0, hcz69_1, hcz69_2, hcz69_3, hcz69_4, hfz69_0, hfz69_1, hfz69_2, hfz69_3, hfz69_4⟩ := blk5 BK238.out; have p256 : 0 ≤ (2 : Int) := (by omega); have q256 : 2 < (l0.length : Int) := of_decide_eq_true (by assumption); obtain ⟨ad256, e256, hx256_0⟩ := Kd.at_string HR0.out 2 p256 q256; obtain rfl : ad249 = ad256 := (by injection e256); (try simp only [show (2 : Int).toNat = 2 from rfl, Nat.reduceMul, Nat.reduceEqDiff, Go.Addr.add, ↓reduceIte] at hx256_0); have qi256 : (2 < l0.length) = True := eq_true (by omega); (try rw [show ((2 : Int)).toNat = 2 from rfl] at hx256_0); have hn256_0 : ad249.block ≠ gb238 := Nat.ne_of_lt (Nat.lt_of_lt_of_le (by have := World.block_lt_of_cell? _ _ hx256_0; first | rwa [add_block] at this | exact this) GW238.out); replace hx256_0 := (HB.out.cell (World.block_lt_of_cell? w _ hx256_0)).trans hx256_0; replace hx256_0 := (cell_far (p := ⟨gb238, 1, none⟩) (by first | (rw [add_block]; exact hn256_0) | (show (Addr.add _ _).block ≠ _; rw [add_block]; exact hn256_0) | exact hn256_0) (.int .i64 t250)).trans hx256_0; (try have hy256_0 := fun (n_ : Nat) => (show (((w67.drewN n_).setCell ⟨gb238, 1, none⟩ (.int .i64 t250))).cell? _ = some _ from hx256_0)); clear hn256_0; replace p256 := eq_true p256; replace q256 := eq_true q256) | (go_at_call 48; (with_reducible refine (remontoirref17_number.calls kj22 (rdOf ByteArray.empty l0 2) t257 t258 _ A64.out).mono ?_); rintro e w70 ⟨rfl, hb⟩; have n0_ := mk0 (blk_below (obf BK237.out) hb); have n1_ := mk0 (blk_below (g := gb238) (o := .cells #[.int .i64 x239000_2, .int .i64 t250, .int .i64 0, .int .i64 0, .string (⟨#[]⟩ : ByteArray)] 40 (0, 0)) (by exact obk (blk_put (obk BK238.out) 1 _ rfl)) hb); have n2_ := mk0 (bst HB.out hb); clear BK237; clear BK238; clear HB; have BK237 := n0_; have BK238 := n1_; have HB := n2_; clear n0_ n1_ n2_; (try clear hb); obtain ⟨hcz71_0, hcz71_1, hcz71_2, hcz71_3, hcz71_4, hfz71_0, hfz71_1, hfz71_2, hfz71_3, hfz71_4⟩ := blk5 BK238.out; have p259 : 0 ≤ (3 : Int) := (by omega); have q259 : 3 < (l0.length : Int) := of_decide_eq_true (by assumption); obtain ⟨ad259, e259, hx259_0⟩ := Kd.at_string HR0.out 3 p259 q259; obtain rfl : ad249 = ad259 := (by injection e259); (try simp only [show (3 : Int).toNat = 3 from rfl, Nat.reduceMul, Nat.reduceEqDiff, Go.Addr.add, ↓reduceIte] at hx259_0); have qi259 : (3 < l0.length) = True := eq_true (by omega); (try rw [show ((3 : Int)).toNat = 3 from rfl] at hx259_0); have hn259_0 : ad249.block ≠ gb238 := Nat.ne_of_lt (Nat.lt_of_lt_of_le (by have := World.block_lt_of_cell? _ _ hx259_0; first | rwa [add_block] at this | exact this) GW238.out); replace hx259_0 := (HB.out.cell (World.block_lt_of_cell? w _ hx259_0)).trans hx259_0; replace hx259_0 := (cell_far (p := ⟨gb238, 3, none⟩) (by first | (rw [add_block]; exact hn259_0) | (show (Addr.add _ _).block ≠ _; rw [add_block]; exact hn259_0) | exact hn259_0) (.int .i64 t257)).trans hx259_0; (try have hy259_0 := fun (n_ : Nat) => (show (((w70.drewN n_).setCell ⟨gb238, 3, none⟩ (.int .i64 t257))).cell? _ = some _ from hx259_0)); clear hn259_0; replace p259 := eq_true p259; replace q259 := eq_true q259; obtain ⟨hcz72_0, hcz72_1, hcz72_2, hcz72_3, hcz72_4, hfz72_0, hfz72_1, hfz72_2, hfz72_3, hfz72_4⟩ := blk5 BK237.out)))
                 refine bodyPost_ret (results_ct rfl _ _ gb237 40 #[.int .i64 x239000_2, .int .i64 t250, .int .i64 0, .int .i64 t257, .string (rdOf ByteArray.empty l0 3)] (0, 0) _ rfl (by exact obk (blk_put (obk (blk_put (obk (blk_put (obk (blk_put (obk (blk_put (obk (blkf (obk (blkf (obk BK237.out) NB237_238.out)) NB237_238.out)) 0 _ rfl)) 1 _ rfl)) 2 _ rfl)) 3 _ rfl)) 4 _ rfl)) Tryd.underlying40 rfl (by kernel_rfl)) rfl ?_
                 exact ⟨by first | rfl | (simp [*, errW_none, errW_some] <;> rfl), by exact bok HB.out⟩
                ·
                 replace c66 := Bool.eq_false_iff.mpr c66
                 subst c66
                 have H1 : (some (x239000_2, t250, 0, t257, rdOf ByteArray.empty l0 3, false)) = some (r1, r2, r3, r4, r5, r6) := by rw [if_neg (show ¬ (false = true) by decide)] at H; exact H
                 clear H
                 have H := H1
                 clear H1
                 simp only [Option.some.injEq, Prod.mk.injEq] at H
                 obtain ⟨rfl, rfl, rfl, rfl, rfl, rfl⟩ := H
                 have p249 : 0 ≤ (1 : Int) := (by omega)
                 have q249 : 1 < (l0.length : Int) := of_decide_eq_true (by assumption)
                 obtain ⟨ad249, e249, hx249_0⟩ := Kd.at_string HR0.out 1 p249 q249
                 cases e249
                 (try simp only [show (1 : Int).toNat = 1 from rfl, Nat.reduceMul, Nat.reduceEqDiff, Go.Addr.add, ↓reduceIte] at hx249_0)
                 have qi249 : (1 < l0.length) = True := eq_true (by omega)
                 (try rw [show ((1 : Int)).toNat = 1 from rfl] at hx249_0)
                 replace hx249_0 := (HB.out.cell (World.block_lt_of_cell? w _ hx249_0)).trans hx249_0
                 replace p249 := eq_true p249
                 replace q249 := eq_true q249
                 go_wp2_with (first | (go_at_call 48; (with_reducible refine (remontoirref17_number.calls kj22 (rdOf ByteArray.empty l0 1) t250 false _ A39.out).mono ?_); rintro e w73 ⟨rfl, hb⟩; have n0_ := mk0 (blk_below (obk BK237.out) hb); have n1_ := mk0 (blk_below (obk BK238.out) hb); have n2_ := mk0 (bst HB.out hb); clear BK237; clear BK238; clear HB; have BK237 := n0_; have BK238 := n1_; have HB := n2_; clear n0_ n1_ n2_; (try clear hb); have hnb74 := NB238_237.out; have hnc74 := NB237_238.out; obtain ⟨hcz75_0, hcz75_1, hcz75_2, hcz75_3, hcz75_4, hfz75_0, hfz75_1, hfz75_2, hfz75_3, hfz75_4⟩ := blk5 BK238.out; have p256 : 0 ≤ (2 : Int) := (by omega); have q256 : 2 < (l0.length : Int) := of_decide_eq_true (by assumption); obtain ⟨ad256, e256, hx256_0⟩ := Kd.at_string HR0.out 2 p256 q256; obtain rfl : ad249 = ad256 := (by injection e256); (try simp only [show (2 : Int).toNat = 2 from rfl, Nat.reduceMul, Nat.reduceEqDiff, Go.Addr.add, ↓reduceIte] at hx256_0); have qi256 : (2 < l0.length) = True := eq_true (by omega); (try rw [show ((2 : Int)).toNat = 2 from rfl] at hx256_0); have hn256_0 : ad249.block ≠ gb238 := Nat.ne_of_lt (Nat.lt_of_lt_of_le (by have := World.block_lt_of_cell? _ _ hx256_0; first | rwa [add_block] at this | exact this) GW238.out); replace hx256_0 := (HB.out.cell (World.block_lt_of_cell? w _ hx256_0)).trans hx256_0; replace hx256_0 := (cell_far (p := ⟨gb238, 1, none⟩) (by first | (rw [add_block]; exact hn256_0) | (show (Addr.add _ _).block ≠ _; rw [add_block]; exact hn256_0) | exact hn256_0) (.int .i64 t250)).trans hx256_0; (try have hy256_0 := fun (n_ : Nat) => (show (((w73.drewN n_).setCell ⟨gb238, 1, none⟩ (.int .i64 t250))).cell? _ = some _ from hx256_0)); clear hn256_0; replace p256 := eq_true p256; replace q256 := eq_true q256) | (go_at_call 48; (with_reducible refine (remontoirref17_number.calls kj22 (rdOf ByteArray.empty l0 2) t257 t258 _ A64.out).mono ?_); rintro e w76 ⟨rfl, hb⟩; have n0_ := mk0 (blk_below (obf BK237.out) hb); have n1_ := mk0 (blk_below (g := gb238) (o := .cells #[.int .i64 x239000_2, .int .i64 t250, .int .i64 0, .int .i64 0, .string (⟨#[]⟩ : ByteArray)] 40 (0, 0)) (by exact obk (blk_put (obk BK238.out) 1 _ rfl)) hb); have n2_ := mk0 (bst HB.out hb); clear BK237; clear BK238; clear HB; have BK237 := n0_; have BK238 := n1_; have HB := n2_; clear n0_ n1_ n2_; (try clear hb); obtain ⟨hcz77_0, hcz77_1, hcz77_2, hcz77_3, hcz77_4, hfz77_0, hfz77_1, hfz77_2, hfz77_3, hfz77_4⟩ := blk5 BK238.out; have p259 : 0 ≤ (3 : Int) := (by omega); have q259 : 3 < (l0.length : Int) := of_decide_eq_true (by assumption); obtain ⟨ad259, e259, hx259_0⟩ := Kd.at_string HR0.out 3 p259 q259; obtain rfl : ad249 = ad259 := (by injection e259); (try simp only [show (3 : Int).toNat = 3 from rfl, Nat.reduceMul, Nat.reduceEqDiff, Go.Addr.add, ↓reduceIte] at hx259_0); have qi259 : (3 < l0.length) = True := eq_true (by omega); (try rw [show ((3 : Int)).toNat = 3 from rfl] at hx259_0); have hn259_0 : ad249.block ≠ gb238 := Nat.ne_of_lt (Nat.lt_of_lt_of_le (by have := World.block_lt_of_cell? _ _ hx259_0; first | rwa [add_block] at this | exact this) GW238.out); replace hx259_0 := (HB.out.cell (World.block_lt_of_cell? w _ hx259_0)).trans hx259_0; replace hx259_0 := (cell_far (p := ⟨gb238, 3, none⟩) (by first | (rw [add_block]; exact hn259_0) | (show (Addr.add _ _).block ≠ _; rw [add_block]; exact hn259_0) | exact hn259_0) (.int .i64 t257)).trans hx259_0; (try have hy259_0 := fun (n_ : Nat) => (show (((w76.drewN n_).setCell ⟨gb238, 3, none⟩ (.int .i64 t257))).cell? _ = some _ from hx259_0)); clear hn259_0; replace p259 := eq_true p259; replace q259 := eq_true q259; obtain ⟨hcz78_0, hcz78_1, hcz78_2, hcz78_3, hcz78_4, hfz78_0, hfz78_1, hfz78_2, hfz78_3, hfz78_4⟩ := blk5 BK237.out))
                 repeat (go_quiet (first | (go_at_call 48; (with_reducible refine (remontoirref17_number.calls kj22 (rdOf ByteArray.empty l0 1) t250 false _ A39.out).mono ?_); rintro e w73 ⟨rfl, hb⟩; have n0_ := mk0 (blk_below (obk BK237.out) hb); have n1_ := mk0 (blk_below (obk BK238.out) hb); have n2_ := mk0 (bst HB.out hb); clear BK237; clear BK238; clear HB; have BK237 := n0_; have BK238 := n1_; have HB := n2_; clear n0_ n1_ n2_; (try clear hb); have hnb74 := NB238_237.out; have hnc74 := NB237_238.out; obtain ⟨hcz75_0, hcz75_1, hcz75_2, hcz75_3, hcz75_4, hfz75_0, hfz75_1, hfz75_2, hfz75_3, hfz75_4⟩ := blk5 BK238.out; have p256 : 0 ≤ (2 : Int) := (by omega); have q256 : 2 < (l0.length : Int) := of_decide_eq_true (by assumption); obtain ⟨ad256, e256, hx256_0⟩ := Kd.at_string HR0.out 2 p256 q256; obtain rfl : ad249 = ad256 := (by injection e256); (try simp only [show (2 : Int).toNat = 2 from rfl, Nat.reduceMul, Nat.reduceEqDiff, Go.Addr.add, ↓reduceIte] at hx256_0); have qi256 : (2 < l0.length) = True := eq_true (by omega); (try rw [show ((2 : Int)).toNat = 2 from rfl] at hx256_0); have hn256_0 : ad249.block ≠ gb238 := Nat.ne_of_lt (Nat.lt_of_lt_of_le (by have := World.block_lt_of_cell? _ _ hx256_0; first | rwa [add_block] at this | exact this) GW238.out); replace hx256_0 := (HB.out.cell (World.block_lt_of_cell? w _ hx256_0)).trans hx256_0; replace hx256_0 := (cell_far (p := ⟨gb238, 1, none⟩) (by first | (rw [add_block]; exact hn256_0) | (show (Addr.add _ _).block ≠ _; rw [add_block]; exact hn256_0) | exact hn256_0) (.int .i64 t250)).trans hx256_0; (try have hy256_0 := fun (n_ : Nat) => (show (((w73.drewN n_).setCell ⟨gb238, 1, none⟩ (.int .i64 t250))).cell? _ = some _ from hx256_0)); clear hn256_0; replace p256 := eq_true p256; replace q256 := eq_true q256) | (go_at_call 48; (with_reducible refine (remontoirref17_number.calls kj22 (rdOf ByteArray.empty l0 2) t257 t258 _ A64.out).mono ?_); rintro e w76 ⟨rfl, hb⟩; have n0_ := mk0 (blk_below (obf BK237.out) hb); have n1_ := mk0 (blk_below (g := gb238) (o := .cells #[.int .i64 x239000_2, .int .i64 t250, .int .i64 0, .int .i64 0, .string (⟨#[]⟩ : ByteArray)] 40 (0, 0)) (by exact obk (blk_put (obk BK238.out) 1 _ rfl)) hb); have n2_ := mk0 (bst HB.out hb); clear BK237; clear BK238; clear HB; have BK237 := n0_; have BK238 := n1_; have HB := n2_; clear n0_ n1_ n2_; (try clear hb); obtain ⟨hcz77_0, hcz77_1, hcz77_2, hcz77_3, hcz77_4, hfz77_0, hfz77_1, hfz77_2, hfz77_3, hfz77_4⟩ := blk5 BK238.out; have p259 : 0 ≤ (3 : Int) := (by omega); have q259 : 3 < (l0.length : Int) := of_decide_eq_true (by assumption); obtain ⟨ad259, e259, hx259_0⟩ := Kd.at_string HR0.out 3 p259 q259; obtain rfl : ad249 = ad259 := (by injection e259); (try simp only [show (3 : Int).toNat = 3 from rfl, Nat.reduceMul, Nat.reduceEqDiff, Go.Addr.add, ↓reduceIte] at hx259_0); have qi259 : (3 < l0.length) = True := eq_true (by omega); (try rw [show ((3 : Int)).toNat = 3 from rfl] at hx259_0); have hn259_0 : ad249.block ≠ gb238 := Nat.ne_of_lt (Nat.lt_of_lt_of_le (by have := World.block_lt_of_cell? _ _ hx259_0; first | rwa [add_block] at this | exact this) GW238.out); replace hx259_0 := (HB.out.cell (World.block_lt_of_cell? w _ hx259_0)).trans hx259_0; replace hx259_0 := (cell_far (p := ⟨gb238, 3, none⟩) (by first | (rw [add_block]; exact hn259_0) | (show (Addr.add _ _).block ≠ _; rw [add_block]; exact hn259_0) | exact hn259_0) (.int .i64 t257)).trans hx259_0; (try have hy259_0 := fun (n_ : Nat) => (show (((w76.drewN n_).setCell ⟨gb238, 3, none⟩ (.int .i64 t257))).cell? _ = some _ from hx259_0)); clear hn259_0; replace p259 := eq_true p259; replace q259 := eq_true q259; obtain ⟨hcz78_0, hcz78_1, hcz78_2, hcz78_3, hcz78_4, hfz78_0, hfz78_1, hfz78_2, hfz78_3, hfz78_4⟩ := blk5 BK237.out)); try go_wp2_with (first | (go_at_call 48; (with_reducible refine (remontoirref17_number.calls kj22 (rdOf ByteArray.empty l0 1) t250 false _ A39.out).mono ?_); rintro e w73 ⟨rfl, hb⟩; have n0_ := mk0 (blk_below (obk BK237.out) hb); have n1_ := mk0 (blk_below (obk BK238.out) hb); have n2_ := mk0 (bst HB.out hb); clear BK237; clear BK238; clear HB; have BK237 := n0_; have BK238 := n1_; have HB := n2_; clear n0_ n1_ n2_; (try clear hb); have hnb74 := NB238_237.out; have hnc74 := NB237_238.out; obtain ⟨hcz75_0, hcz75_1, hcz75_2, hcz75_3, hcz75_4, hfz75_0, hfz75_1, hfz75_2, hfz75_3, hfz75_4⟩ := blk5 BK238.out; have p256 : 0 ≤ (2 : Int) := (by omega); have q256 : 2 < (l0.length : Int) := of_decide_eq_true (by assumption); obtain ⟨ad256, e256, hx256_0⟩ := Kd.at_string HR0.out 2 p256 q256; obtain rfl : ad249 = ad256 := (by injection e256); (try simp only [show (2 : Int).toNat = 2 from rfl, Nat.reduceMul, Nat.reduceEqDiff, Go.Addr.add, ↓reduceIte] at hx256_0); have qi256 : (2 < l0.length) = True := eq_true (by omega); (try rw [show ((2 : Int)).toNat = 2 from rfl] at hx256_0); have hn256_0 : ad249.block ≠ gb238 := Nat.ne_of_lt (Nat.lt_of_lt_of_le (by have := World.block_lt_of_cell? _ _ hx256_0; first | rwa [add_block] at this | exact this) GW238.out); replace hx256_0 := (HB.out.cell (World.block_lt_of_cell? w _ hx256_0)).trans hx256_0; replace hx256_0 := (cell_far (p := ⟨gb238, 1, none⟩) (by first | (rw [add_block]; exact hn256_0) | (show (Addr.add _ _).block ≠ _; rw [add_block]; exact hn256_0) | exact hn256_0) (.int .i64 t250)).trans hx256_0; (try have hy256_0 := fun (n_ : Nat) => (show (((w73.drewN n_).setCell ⟨gb238, 1, none⟩ (.int .i64 t250))).cell? _ = some _ from hx256_0)); clear hn256_0; replace p256 := eq_true p256; replace q256 := eq_true q256) | (go_at_call 48; (with_reducible refine (remontoirref17_number.calls kj22 (rdOf ByteArray.empty l0 2) t257 t258 _ A64.out).mono ?_); rintro e w76 ⟨rfl, hb⟩; have n0_ := mk0 (blk_below (obf BK237.out) hb); have n1_ := mk0 (blk_below (g := gb238) (o := .cells #[.int .i64 x239000_2, .int .i64 t250, .int .i64 0, .int .i64 0, .string (⟨#[]⟩ : ByteArray)] 40 (0, 0)) (by exact obk (blk_put (obk BK238.out) 1 _ rfl)) hb); have n2_ := mk0 (bst HB.out hb); clear BK237; clear BK238; clear HB; have BK237 := n0_; have BK238 := n1_; have HB := n2_; clear n0_ n1_ n2_; (try clear hb); obtain ⟨hcz77_0, hcz77_1, hcz77_2, hcz77_3, hcz77_4, hfz77_0, hfz77_1, hfz77_2, hfz77_3, hfz77_4⟩ := blk5 BK238.out; have p259 : 0 ≤ (3 : Int) := (by omega); have q259 : 3 < (l0.length : Int) := of_decide_eq_true (by assumption); obtain ⟨ad259, e259, hx259_0⟩ := Kd.at_string HR0.out 3 p259 q259; obtain rfl : ad249 = ad259 := (by injection e259); (try simp only [show (3 : Int).toNat = 3 from rfl, Nat.reduceMul, Nat.reduceEqDiff, Go.Addr.add, ↓reduceIte] at hx259_0); have qi259 : (3 < l0.length) = True := eq_true (by omega); (try rw [show ((3 : Int)).toNat = 3 from rfl] at hx259_0); have hn259_0 : ad249.block ≠ gb238 := Nat.ne_of_lt (Nat.lt_of_lt_of_le (by have := World.block_lt_of_cell? _ _ hx259_0; first | rwa [add_block] at this | exact this) GW238.out); replace hx259_0 := (HB.out.cell (World.block_lt_of_cell? w _ hx259_0)).trans hx259_0; replace hx259_0 := (cell_far (p := ⟨gb238, 3, none⟩) (by first | (rw [add_block]; exact hn259_0) | (show (Addr.add _ _).block ≠ _; rw [add_block]; exact hn259_0) | exact hn259_0) (.int .i64 t257)).trans hx259_0; (try have hy259_0 := fun (n_ : Nat) => (show (((w76.drewN n_).setCell ⟨gb238, 3, none⟩ (.int .i64 t257))).cell? _ = some _ from hx259_0)); clear hn259_0; replace p259 := eq_true p259; replace q259 := eq_true q259; obtain ⟨hcz78_0, hcz78_1, hcz78_2, hcz78_3, hcz78_4, hfz78_0, hfz78_1, hfz78_2, hfz78_3, hfz78_4⟩ := blk5 BK237.out)))
                 refine bodyPost_ret (results_ct rfl _ _ gb237 40 #[.int .i64 x239000_2, .int .i64 t250, .int .i64 0, .int .i64 t257, .string (rdOf ByteArray.empty l0 3)] (0, 0) _ rfl (by exact obk (blk_put (obk (blk_put (obk (blk_put (obk (blk_put (obk (blk_put (obk (blkf (obk (blkf (obk BK237.out) NB237_238.out)) NB237_238.out)) 0 _ rfl)) 1 _ rfl)) 2 _ rfl)) 3 _ rfl)) 4 _ rfl)) Tryd.underlying40 rfl (by kernel_rfl)) rfl ?_
                 exact ⟨by first | rfl | (simp [*, errW_none, errW_some] <;> rfl), by exact bok HB.out⟩
               ·
                rw [if_neg c65] at H
                exact absurd H (by simp)
              ·
               rw [if_neg c63] at H
               exact absurd H (by simp)
             ·
              rw [if_neg c62] at H
              have c62b0 : (x239000_2 == 8) = false := beq_eq_false_iff_ne.mpr c62
              have c62b1 : (x239000_2 != 8) = true := bne_iff_ne.mpr c62
              by_cases c79 : x239000_2 = 9
              ·
               rw [if_pos c79] at H
               have c79b0 : (x239000_2 == 9) = true := beq_iff_eq.mpr c79
               have c79b1 : (x239000_2 != 9) = false := bne_eq_false_iff_eq.mpr c79
               clear c79
               by_cases c80 : 2 < (l0.length : Int)
               ·
                rw [if_pos c80] at H
                have c80b0 : decide (2 < (l0.length : Int)) = true := decide_eq_true c80
                have c80b1 : decide (2 < l0.length) = true := decide_eq_true (by omega)
                clear c80
                replace H := Option.bind_eq_some_iff.mp H
                obtain ⟨⟨t261, t262⟩, A810, H⟩ := H
                replace H : (if 3 < (l0.length : Int) then (if t251 = true then (some (x239000_2, t250, 0, t261, rdOf ByteArray.empty l0 3, t262)) else (some (x239000_2, t250, 0, t261, rdOf ByteArray.empty l0 3, false))) else (none)) = some (r1, r2, r3, r4, r5, r6) := H
                have A81 := mk0 A810
                clear A810
                by_cases c82 : 3 < (l0.length : Int)
                ·
                 rw [if_pos c82] at H
                 have c82b0 : decide (3 < (l0.length : Int)) = true := decide_eq_true c82
                 have c82b1 : decide (3 < l0.length) = true := decide_eq_true (by omega)
                 clear c82
                 by_cases c83 : t251 = true
                 ·
                  subst c83
                  have H1 : (some (x239000_2, t250, 0, t261, rdOf ByteArray.empty l0 3, t262)) = some (r1, r2, r3, r4, r5, r6) := by rw [if_pos rfl] at H; exact H
                  clear H
                  have H := H1
                  clear H1
                  simp only [Option.some.injEq, Prod.mk.injEq] at H
                  obtain ⟨rfl, rfl, rfl, rfl, rfl, rfl⟩ := H
                  have p249 : 0 ≤ (1 : Int) := (by omega)
                  have q249 : 1 < (l0.length : Int) := of_decide_eq_true (by assumption)
                  obtain ⟨ad249, e249, hx249_0⟩ := Kd.at_string HR0.out 1 p249 q249
                  cases e249
                  (try simp only [show (1 : Int).toNat = 1 from rfl, Nat.reduceMul, Nat.reduceEqDiff, Go.Addr.add, ↓reduceIte] at hx249_0)
                  have qi249 : (1 < l0.length) = True := eq_true (by omega)
                  (try rw [show ((1 : Int)).toNat = 1 from rfl] at hx249_0)
                  replace hx249_0 := (HB.out.cell (World.block_lt_of_cell? w _ hx249_0)).trans hx249_0
                  replace p249 := eq_true p249
                  replace q249 := eq_true q249
                  go_wp2_with (first | (go_at_call 48; (with_reducible refine (remontoirref17_number.calls kj22 (rdOf ByteArray.empty l0 1) t250 true _ A39.out).mono ?_); rintro e w84 ⟨rfl, hb⟩; have n0_ := mk0 (blk_below (obk BK237.out) hb); have n1_ := mk0 (blk_below (obk BK238.out) hb); have n2_ := mk0 (bst HB.out hb); clear BK237; clear BK238; clear HB; have BK237 := n0_; have BK238 := n1_; have HB := n2_; clear n0_ n1_ n2_; (try clear hb); have hnb85 := NB238_237.out; have hnc85 := NB237_238.out; obtain ⟨hcz86_0, hcz86_1, hcz86_2, hcz86_3, hcz86_4, hfz86_0, hfz86_1, hfz86_2, hfz86_3, hfz86_4⟩ := blk5 BK238.out; have p260 : 0 ≤ (2 : Int) := (by omega); have q260 : 2 < (l0.length : Int) := of_decide_eq_true (by assumption); obtain ⟨ad260, e260, hx260_0⟩ := Kd.at_string HR0.out 2 p260 q260; obtain rfl : ad249 = ad260 := (by injection e260); (try simp only [show (2 : Int).toNat = 2 from rfl, Nat.reduceMul, Nat.reduceEqDiff, Go.Addr.add, ↓reduceIte] at hx260_0); have qi260 : (2 < l0.length) = True := eq_true (by omega); (try rw [show ((2 : Int)).toNat = 2 from rfl] at hx260_0); have hn260_0 : ad249.block ≠ gb238 := Nat.ne_of_lt (Nat.lt_of_lt_of_le (by have := World.block_lt_of_cell? _ _ hx260_0; first | rwa [add_block] at this | exact this) GW238.out); replace hx260_0 := (HB.out.cell (World.block_lt_of_cell? w _ hx260_0)).trans hx260_0; replace hx260_0 := (cell_far (p := ⟨gb238, 1, none⟩) (by first | (rw [add_block]; exact hn260_0) | (show (Addr.add _ _).block ≠ _; rw [add_block]; exact hn260_0) | exact hn260_0) (.int .i64 t250)).trans hx260_0; (try have hy260_0 := fun (n_ : Nat) => (show (((w84.drewN n_).setCell ⟨gb238, 1, none⟩ (.int .i64 t250))).cell? _ = some _ from hx260_0)); clear hn260_0; replace p260 := eq_true p260; replace q260 := eq_true q260) | (go_at_call 48; (with_reducible refine (remontoirref17_number.calls kj22 (rdOf ByteArray.empty l0 2) t261 t262 _ A81.out).mono ?_); rintro e w87 ⟨rfl, hb⟩; have n0_ := mk0 (blk_below (obf BK237.out) hb); have n1_ := mk0 (blk_below (g := gb238) (o := .cells #[.int .i64 x239000_2, .int .i64 t250, .int .i64 0, .int .i64 0, .string (⟨#[]⟩ : ByteArray)] 40 (0, 0)) (by exact obk (blk_put (obk BK238.out) 1 _ rfl)) hb); have n2_ := mk0 (bst HB.out hb); clear BK237; clear BK238; clear HB; have BK237 := n0_; have BK238 := n1_; have HB := n2_; clear n0_ n1_ n2_; (try clear hb); obtain ⟨hcz88_0, hcz88_1, hcz88_2, hcz88_3, hcz88_4, hfz88_0, hfz88_1, hfz88_2, hfz88_3, hfz88_4⟩ := blk5 BK238.out; have p263 : 0 ≤ (3 : Int) := (by omega); have q263 : 3 < (l0.length : Int) := of_decide_eq_true (by assumption); obtain ⟨ad263, e263, hx263_0⟩ := Kd.at_string HR0.out 3 p263 q263; obtain rfl : ad249 = ad263 := (by injection e263); (try simp only [show (3 : Int).toNat = 3 from rfl, Nat.reduceMul, Nat.reduceEqDiff, Go.Addr.add, ↓reduceIte] at hx263_0); have qi263 : (3 < l0.length) = True := eq_true (by omega); (try rw [show ((3 : Int)).toNat = 3 from rfl] at hx263_0); have hn263_0 : ad249.block ≠ gb238 := Nat.ne_of_lt (Nat.lt_of_lt_of_le (by have := World.block_lt_of_cell? _ _ hx263_0; first | rwa [add_block] at this | exact this) GW238.out); replace hx263_0 := (HB.out.cell (World.block_lt_of_cell? w _ hx263_0)).trans hx263_0; replace hx263_0 := (cell_far (p := ⟨gb238, 3, none⟩) (by first | (rw [add_block]; exact hn263_0) | (show (Addr.add _ _).block ≠ _; rw [add_block]; exact hn263_0) | exact hn263_0) (.int .i64 t261)).trans hx263_0; (try have hy263_0 := fun (n_ : Nat) => (show (((w87.drewN n_).setCell ⟨gb238, 3, none⟩ (.int .i64 t261))).cell? _ = some _ from hx263_0)); clear hn263_0; replace p263 := eq_true p263; replace q263 := eq_true q263; obtain ⟨hcz89_0, hcz89_1, hcz89_2, hcz89_3, hcz89_4, hfz89_0, hfz89_1, hfz89_2, hfz89_3, hfz89_4⟩ := blk5 BK237.out))
                  repeat (go_quiet (first | (go_at_call 48; (with_reducible refine (remontoirref17_number.calls kj22 (rdOf ByteArray.empty l0 1) t250 true _ A39.out).mono ?_); rintro e w84 ⟨rfl, hb⟩; have n0_ := mk0 (blk_below (obk BK237.out) hb); have n1_ := mk0 (blk_below (obk BK238.out) hb); have n2_ := mk0 (bst HB.out hb); clear BK237; clear BK238; clear HB; have BK237 := n0_; have BK238 := n1_; have HB := n2_; clear n0_ n1_ n2_; (try clear hb); have hnb85 := NB238_237.out; have hnc85 := NB237_238.out; obtain ⟨hcz86_0, hcz86_1, hcz86_2, hcz86_3, hcz86_4, hfz86_0, hfz86_1, hfz86_2, hfz86_3, hfz86_4⟩ := blk5 BK238.out; have p260 : 0 ≤ (2 : Int) := (by omega); have q260 : 2 < (l0.length : Int) := of_decide_eq_true (by assumption); obtain ⟨ad260, e260, hx260_0⟩ := Kd.at_string HR0.out 2 p260 q260; obtain rfl : ad249 = ad260 := (by injection e260); (try simp only [show (2 : Int).toNat = 2 from rfl, Nat.reduceMul, Nat.reduceEqDiff, Go.Addr.add, ↓reduceIte] at hx260_0); have qi260 : (2 < l0.length) = True := eq_true (by omega); (try rw [show ((2 : Int)).toNat = 2 from rfl] at hx260_0); have hn260_0 : ad249.block ≠ gb238 := Nat.ne_of_lt (Nat.lt_of_lt_of_le (by have := World.block_lt_of_cell? _ _ hx260_0; first | rwa [add_block] at this | exact this) GW238.out); replace hx260_0 := (HB.out.cell (World.block_lt_of_cell? w _ hx260_0)).trans hx260_0; replace hx260_0 := (cell_far (p := ⟨gb238, 1, none⟩) (by first | (rw [add_block]; exact hn260_0) | (show (Addr.add _ _).block ≠ _; rw [add_block]; exact hn260_0) | exact hn260_0) (.int .i64 t250)).trans hx260_0; (try have hy260_0 := fun (n_ : Nat) => (show (((w84.drewN n_).setCell ⟨gb238, 1, none⟩ (.int .i64 t250))).cell? _ = some _ from hx260_0)); clear hn260_0; replace p260 := eq_true p260; replace q260 := eq_true q260) | (go_at_call 48; (with_reducible refine (remontoirref17_number.calls kj22 (rdOf ByteArray.empty l0 2) t261 t262 _ A81.out).mono ?_); rintro e w87 ⟨rfl, hb⟩; have n0_ := mk0 (blk_below (obf BK237.out) hb); have n1_ := mk0 (blk_below (g := gb238) (o := .cells #[.int .i64 x239000_2, .int .i64 t250, .int .i64 0, .int .i64 0, .string (⟨#[]⟩ : ByteArray)] 40 (0, 0)) (by exact obk (blk_put (obk BK238.out) 1 _ rfl)) hb); have n2_ := mk0 (bst HB.out hb); clear BK237; clear BK238; clear HB; have BK237 := n0_; have BK238 := n1_; have HB := n2_; clear n0_ n1_ n2_; (try clear hb); obtain ⟨hcz88_0, hcz88_1, hcz88_2, hcz88_3, hcz88_4, hfz88_0, hfz88_1, hfz88_2, hfz88_3, hfz88_4⟩ := blk5 BK238.out; have p263 : 0 ≤ (3 : Int) := (by omega); have q263 : 3 < (l0.length : Int) := of_decide_eq_true (by assumption); obtain ⟨ad263, e263, hx263_0⟩ := Kd.at_string HR0.out 3 p263 q263; obtain rfl : ad249 = ad263 := (by injection e263); (try simp only [show (3 : Int).toNat = 3 from rfl, Nat.reduceMul, Nat.reduceEqDiff, Go.Addr.add, ↓reduceIte] at hx263_0); have qi263 : (3 < l0.length) = True := eq_true (by omega); (try rw [show ((3 : Int)).toNat = 3 from rfl] at hx263_0); have hn263_0 : ad249.block ≠ gb238 := Nat.ne_of_lt (Nat.lt_of_lt_of_le (by have := World.block_lt_of_cell? _ _ hx263_0; first | rwa [add_block] at this | exact this) GW238.out); replace hx263_0 := (HB.out.cell (World.block_lt_of_cell? w _ hx263_0)).trans hx263_0; replace hx263_0 := (cell_far (p := ⟨gb238, 3, none⟩) (by first | (rw [add_block]; exact hn263_0) | (show (Addr.add _ _).block ≠ _; rw [add_block]; exact hn263_0) | exact hn263_0) (.int .i64 t261)).trans hx263_0; (try have hy263_0 := fun (n_ : Nat) => (show (((w87.drewN n_).setCell ⟨gb238, 3, none⟩ (.int .i64 t261))).cell? _ = some _ from hx263_0)); clear hn263_0; replace p263 := eq_true p263; replace q263 := eq_true q263; obtain ⟨hcz89_0, hcz89_1, hcz89_2, hcz89_3, hcz89_4, hfz89_0, hfz89_1, hfz89_2, hfz89_3, hfz89_4⟩ := blk5 BK237.out)); try go_wp2_with (first | (go_at_call 48; (with_reducible refine (remontoirref17_number.calls kj22 (rdOf ByteArray.empty l0 1) t250 true _ A39.out).mono ?_); rintro e w84 ⟨rfl, hb⟩; have n0_ := mk0 (blk_below (obk BK237.out) hb); have n1_ := mk0 (blk_below (obk BK238.out) hb); have n2_ := mk0 (bst HB.out hb); clear BK237; clear BK238; clear HB; have BK237 := n0_; have BK238 := n1_; have HB := n2_; clear n0_ n1_ n2_; (try clear hb); have hnb85 := NB238_237.out; have hnc85 := NB237_238.out; obtain ⟨hcz86_0, hcz86_1, hcz86_2, hcz86_3, hcz86_4, hfz86_0, hfz86_1, hfz86_2, hfz86_3, hfz86_4⟩ := blk5 BK238.out; have p260 : 0 ≤ (2 : Int) := (by omega); have q260 : 2 < (l0.length : Int) := of_decide_eq_true (by assumption); obtain ⟨ad260, e260, hx260_0⟩ := Kd.at_string HR0.out 2 p260 q260; obtain rfl : ad249 = ad260 := (by injection e260); (try simp only [show (2 : Int).toNat = 2 from rfl, Nat.reduceMul, Nat.reduceEqDiff, Go.Addr.add, ↓reduceIte] at hx260_0); have qi260 : (2 < l0.length) = True := eq_true (by omega); (try rw [show ((2 : Int)).toNat = 2 from rfl] at hx260_0); have hn260_0 : ad249.block ≠ gb238 := Nat.ne_of_lt (Nat.lt_of_lt_of_le (by have := World.block_lt_of_cell? _ _ hx260_0; first | rwa [add_block] at this | exact this) GW238.out); replace hx260_0 := (HB.out.cell (World.block_lt_of_cell? w _ hx260_0)).trans hx260_0; replace hx260_0 := (cell_far (p := ⟨gb238, 1, none⟩) (by first | (rw [add_block]; exact hn260_0) | (show (Addr.add _ _).block ≠ _; rw [add_block]; exact hn260_0) | exact hn260_0) (.int .i64 t250)).trans hx260_0; (try have hy260_0 := fun (n_ : Nat) => (show (((w84.drewN n_).setCell ⟨gb238, 1, none⟩ (.int .i64 t250))).cell? _ = some _ from hx260_0)); clear hn260_0; replace p260 := eq_true p260; replace q260 := eq_true q260) | (go_at_call 48; (with_reducible refine (remontoirref17_number.calls kj22 (rdOf ByteArray.empty l0 2) t261 t262 _ A81.out).mono ?_); rintro e w87 ⟨rfl, hb⟩; have n0_ := mk0 (blk_below (obf BK237.out) hb); have n1_ := mk0 (blk_below (g := gb238) (o := .cells #[.int .i64 x239000_2, .int .i64 t250, .int .i64 0, .int .i64 0, .string (⟨#[]⟩ : ByteArray)] 40 (0, 0)) (by exact obk (blk_put (obk BK238.out) 1 _ rfl)) hb); have n2_ := mk0 (bst HB.out hb); clear BK237; clear BK238; clear HB; have BK237 := n0_; have BK238 := n1_; have HB := n2_; clear n0_ n1_ n2_; (try clear hb); obtain ⟨hcz88_0, hcz88_1, hcz88_2, hcz88_3, hcz88_4, hfz88_0, hfz88_1, hfz88_2, hfz88_3, hfz88_4⟩ := blk5 BK238.out; have p263 : 0 ≤ (3 : Int) := (by omega); have q263 : 3 < (l0.length : Int) := of_decide_eq_true (by assumption); obtain ⟨ad263, e263, hx263_0⟩ := Kd.at_string HR0.out 3 p263 q263; obtain rfl : ad249 = ad263 := (by injection e263); (try simp only [show (3 : Int).toNat = 3 from rfl, Nat.reduceMul, Nat.reduceEqDiff, Go.Addr.add, ↓reduceIte] at hx263_0); have qi263 : (3 < l0.length) = True := eq_true (by omega); (try rw [show ((3 : Int)).toNat = 3 from rfl] at hx263_0); have hn263_0 : ad249.block ≠ gb238 := Nat.ne_of_lt (Nat.lt_of_lt_of_le (by have := World.block_lt_of_cell? _ _ hx263_0; first | rwa [add_block] at this | exact this) GW238.out); replace hx263_0 := (HB.out.cell (World.block_lt_of_cell? w _ hx263_0)).trans hx263_0; replace hx263_0 := (cell_far (p := ⟨gb238, 3, none⟩) (by first | (rw [add_block]; exact hn263_0) | (show (Addr.add _ _).block ≠ _; rw [add_block]; exact hn263_0) | exact hn263_0) (.int .i64 t261)).trans hx263_0; (try have hy263_0 := fun (n_ : Nat) => (show (((w87.drewN n_).setCell ⟨gb238, 3, none⟩ (.int .i64 t261))).cell? _ = some _ from hx263_0)); clear hn263_0; replace p263 := eq_true p263; replace q263 := eq_true q263; obtain ⟨hcz89_0, hcz89_1, hcz89_2, hcz89_3, hcz89_4, hfz89_0, hfz89_1, hfz89_2, hfz89_3, hfz89_4⟩ := blk5 BK237.out)))
                  refine bodyPost_ret (results_ct rfl _ _ gb237 40 #[.int .i64 x239000_2, .int .i64 t250, .int .i64 0, .int .i64 t261, .string (rdOf ByteArray.empty l0 3)] (0, 0) _ rfl (by exact obk (blk_put (obk (blk_put (obk (blk_put (obk (blk_put (obk (blk_put (obk (blkf (obk (blkf (obk BK237.out) NB237_238.out)) NB237_238.out)) 0 _ rfl)) 1 _ rfl)) 2 _ rfl)) 3 _ rfl)) 4 _ rfl)) Tryd.underlying40 rfl (by kernel_rfl)) rfl ?_
                  exact ⟨by first | rfl | (simp [*, errW_none, errW_some] <;> rfl), by exact bok HB.out⟩
                 ·
                  replace c83 := Bool.eq_false_iff.mpr c83
                  subst c83
                  have H1 : (some (x239000_2, t250, 0, t261, rdOf ByteArray.empty l0 3, false)) = some (r1, r2, r3, r4, r5, r6) := by rw [if_neg (show ¬ (false = true) by decide)] at H; exact H
                  clear H
                  have H := H1
                  clear H1
                  simp only [Option.some.injEq, Prod.mk.injEq] at H
                  obtain ⟨rfl, rfl, rfl, rfl, rfl, rfl⟩ := H
                  have p249 : 0 ≤ (1 : Int) := (by omega)
                  have q249 : 1 < (l0.length : Int) := of_decide_eq_true (by assumption)
                  obtain ⟨ad249, e249, hx249_0⟩ := Kd.at_string HR0.out 1 p249 q249
                  cases e249
                  (try simp only [show (1 : Int).toNat = 1 from rfl, Nat.reduceMul, Nat.reduceEqDiff, Go.Addr.add, ↓reduceIte] at hx249_0)
                  have qi249 : (1 < l0.length) = True := eq_true (by omega)
                  (try rw [show ((1 : Int)).toNat = 1 from rfl] at hx249_0)
                  replace hx249_0 := (HB.out.cell (World.block_lt_of_cell? w _ hx249_0)).trans hx249_0
                  replace p249 := eq_true p249
                  replace q249 := eq_true q249
                  go_wp2_with (first | (go_at_call 48; (with_reducible refine (remontoirref17_number.calls kj22 (rdOf ByteArray.empty l0 1) t250 false _ A39.out).mono ?_); rintro e w90 ⟨rfl, hb⟩; have n0_ := mk0 (blk_below (obk BK237.out) hb); have n1_ := mk0 (blk_below (obk BK238.out) hb); have n2_ := mk0 (bst HB.out hb); clear BK237; clear BK238; clear HB; have BK237 := n0_; have BK238 := n1_; have HB := n2_; clear n0_ n1_ n2_; (try clear hb); have hnb91 := NB238_237.out; have hnc91 := NB237_238.out; obtain ⟨hcz92_0, hcz92_1, hcz92_2, hcz92_3, hcz92_4, hfz92_0, hfz92_1, hfz92_2, hfz92_3, hfz92_4⟩ := blk5 BK238.out; have p260 : 0 ≤ (2 : Int) := (by omega); have q260 : 2 < (l0.length : Int) := of_decide_eq_true (by assumption); obtain ⟨ad260, e260, hx260_0⟩ := Kd.at_string HR0.out 2 p260 q260; obtain rfl : ad249 = ad260 := (by injection e260); (try simp only [show (2 : Int).toNat = 2 from rfl, Nat.reduceMul, Nat.reduceEqDiff, Go.Addr.add, ↓reduceIte] at hx260_0); have qi260 : (2 < l0.length) = True := eq_true (by omega); (try rw [show ((2 : Int)).toNat = 2 from rfl] at hx260_0); have hn260_0 : ad249.block ≠ gb238 := Nat.ne_of_lt (Nat.lt_of_lt_of_le (by have := World.block_lt_of_cell? _ _ hx260_0; first | rwa [add_block] at this | exact this) GW238.out); replace hx260_0 := (HB.out.cell (World.block_lt_of_cell? w _ hx260_0)).trans hx260_0; replace hx260_0 := (cell_far (p := ⟨gb238, 1, none⟩) (by first | (rw [add_block]; exact hn260_0) | (show (Addr.add _ _).block ≠ _; rw [add_block]; exact hn260_0) | exact hn260_0) (.int .i64 t250)).trans hx260_0; (try have hy260_0 := fun (n_ : Nat) => (show (((w90.drewN n_).setCell ⟨gb238, 1, none⟩ (.int .i64 t250))).cell? _ = some _ from hx260_0)); clear hn260_0; replace p260 := eq_true p260; replace q260 := eq_true q260) | (go_at_call 48; (with_reducible refine (remontoirref17_number.calls kj22 (rdOf ByteArray.empty l0 2) t261 t262 _ A81.out).mono ?_); rintro e w93 ⟨rfl, hb⟩; have n0_ := mk0 (blk_below (obf BK237.out) hb); have n1_ := mk0 (blk_below (g := gb238) (o := .cells #[.int .i64 x239000_2, .int .i64 t250, .int .i64 0, .int .i64 0, .string (⟨#[]⟩ : ByteArray)] 40 (0, 0)) (by exact obk (blk_put (obk BK238.out) 1 _ rfl)) hb); have n2_ := mk0 (bst HB.out hb); clear BK237; clear BK238; clear HB; have BK237 := n0_; have BK238 := n1_; have HB := n2_; clear n0_ n1_ n2_; (try clear hb); obtain ⟨hcz94_0, hcz94_1, hcz94_2, hcz94_3, hcz94_4, hfz94_0, hfz94_1, hfz94_2, hfz94_3, hfz94_4⟩ := blk5 BK238.out; have p263 : 0 ≤ (3 : Int) := (by omega); have q263 : 3 < (l0.length : Int) := of_decide_eq_true (by assumption); obtain ⟨ad263, e263, hx263_0⟩ := Kd.at_string HR0.out 3 p263 q263; obtain rfl : ad249 = ad263 := (by injection e263); (try simp only [show (3 : Int).toNat = 3 from rfl, Nat.reduceMul, Nat.reduceEqDiff, Go.Addr.add, ↓reduceIte] at hx263_0); have qi263 : (3 < l0.length) = True := eq_true (by omega); (try rw [show ((3 : Int)).toNat = 3 from rfl] at hx263_0); have hn263_0 : ad249.block ≠ gb238 := Nat.ne_of_lt (Nat.lt_of_lt_of_le (by have := World.block_lt_of_cell? _ _ hx263_0; first | rwa [add_block] at this | exact this) GW238.out); replace hx263_0 := (HB.out.cell (World.block_lt_of_cell? w _ hx263_0)).trans hx263_0; replace hx263_0 := (cell_far (p := ⟨gb238, 3, none⟩) (by first | (rw [add_block]; exact hn263_0) | (show (Addr.add _ _).block ≠ _; rw [add_block]; exact hn263_0) | exact hn263_0) (.int .i64 t261)).trans hx263_0; (try have hy263_0 := fun (n_ : Nat) => (show (((w93.drewN n_).setCell ⟨gb238, 3, none⟩ (.int .i64 t261))).cell? _ = some _ from hx263_0)); clear hn263_0; replace p263 := eq_true p263; replace q263 := eq_true q263; obtain ⟨hcz95_0, hcz95_1, hcz95_2, hcz95_3, hcz95_4, hfz95_0, hfz95_1, hfz95_2, hfz95_3, hfz95_4⟩ := blk5 BK237.out))
                  repeat (go_quiet (first | (go_at_call 48; (with_reducible refine (remontoirref17_number.calls kj22 (rdOf ByteArray.empty l0 1) t250 false _ A39.out).mono ?_); rintro e w90 ⟨rfl, hb⟩; have n0_ := mk0 (blk_below (obk BK237.out) hb); have n1_ := mk0 (blk_below (obk BK238.out) hb); have n2_ := mk0 (bst HB.out hb); clear BK237; clear BK238; clear HB; have BK237 := n0_; have BK238 := n1_; have HB := n2_; clear n0_ n1_ n2_; (try clear hb); have hnb91 := NB238_237.out; have hnc91 := NB237_238.out; obtain ⟨hcz92_0, hcz92_1, hcz92_2, hcz92_3, hcz92_4, hfz92_0, hfz92_1, hfz92_2, hfz92_3, hfz92_4⟩ := blk5 BK238.out; have p260 : 0 ≤ (2 : Int) := (by omega); have q260 : 2 < (l0.length : Int) := of_decide_eq_true (by assumption); obtain ⟨ad260, e260, hx260_0⟩ := Kd.at_string HR0.out 2 p260 q260; obtain rfl : ad249 = ad260 := (by injection e260); (try simp only [show (2 : Int).toNat = 2 from rfl, Nat.reduceMul, Nat.reduceEqDiff, Go.Addr.add, ↓reduceIte] at hx260_0); have qi260 : (2 < l0.length) = True := eq_true (by omega); (try rw [show ((2 : Int)).toNat = 2 from rfl] at hx260_0); have hn260_0 : ad249.block ≠ gb238 := Nat.ne_of_lt (Nat.lt_of_lt_of_le (by have := World.block_lt_of_cell? _ _ hx260_0; first | rwa [add_block] at this | exact this) GW238.out); replace hx260_0 := (HB.out.cell (World.block_lt_of_cell? w _ hx260_0)).trans hx260_0; replace hx260_0 := (cell_far (p := ⟨gb238, 1, none⟩) (by first | (rw [add_block]; exact hn260_0) | (show (Addr.add _ _).block ≠ _; rw [add_block]; exact hn260_0) | exact hn260_0) (.int .i64 t250)).trans hx260_0; (try have hy260_0 := fun (n_ : Nat) => (show (((w90.drewN n_).setCell ⟨gb238, 1, none⟩ (.int .i64 t250))).cell? _ = some _ from hx260_0)); clear hn260_0; replace p260 := eq_true p260; replace q260 := eq_true q260) | (go_at_call 48; (with_reducible refine (remontoirref17_number.calls kj22 (rdOf ByteArray.empty l0 2) t261 t262 _ A81.out).mono ?_); rintro e w93 ⟨rfl, hb⟩; have n0_ := mk0 (blk_below (obf BK237.out) hb); have n1_ := mk0 (blk_below (g := gb238) (o := .cells #[.int .i64 x239000_2, .int .i64 t250, .int .i64 0, .int .i64 0, .string (⟨#[]⟩ : ByteArray)] 40 (0, 0)) (by exact obk (blk_put (obk BK238.out) 1 _ rfl)) hb); have n2_ := mk0 (bst HB.out hb); clear BK237; clear BK238; clear HB; have BK237 := n0_; have BK238 := n1_; have HB := n2_; clear n0_ n1_ n2_; (try clear hb); obtain ⟨hcz94_0, hcz94_1, hcz94_2, hcz94_3, hcz94_4, hfz94_0, hfz94_1, hfz94_2, hfz94_3, hfz94_4⟩ := blk5 BK238.out; have p263 : 0 ≤ (3 : Int) := (by omega); have q263 : 3 < (l0.length : Int) := of_decide_eq_true (by assumption); obtain ⟨ad263, e263, hx263_0⟩ := Kd.at_string HR0.out 3 p263 q263; obtain rfl : ad249 = ad263 := (by injection e263); (try simp only [show (3 : Int).toNat = 3 from rfl, Nat.reduceMul, Nat.reduceEqDiff, Go.Addr.add, ↓reduceIte] at hx263_0); have qi263 : (3 < l0.length) = True := eq_true (by omega); (try rw [show ((3 : Int)).toNat = 3 from rfl] at hx263_0); have hn263_0 : ad249.block ≠ gb238 := Nat.ne_of_lt (Nat.lt_of_lt_of_le (by have := World.block_lt_of_cell? _ _ hx263_0; first | rwa [add_block] at this | exact this) GW238.out); replace hx263_0 := (HB.out.cell (World.block_lt_of_cell? w _ hx263_0)).trans hx263_0; replace hx263_0 := (cell_far (p := ⟨gb238, 3, none⟩) (by first | (rw [add_block]; exact hn263_0) | (show (Addr.add _ _).block ≠ _; rw [add_block]; exact hn263_0) | exact hn263_0) (.int .i64 t261)).trans hx263_0; (try have hy263_0 := fun (n_ : Nat) => (show (((w93.drewN n_).setCell ⟨gb238, 3, none⟩ (.int .i64 t261))).cell? _ = some _ from hx263_0)); clear hn263_0; replace p263 := eq_true p263; replace q263 := eq_true q263; obtain ⟨hcz95_0, hcz95_1, hcz95_2, hcz95_3, hcz95_4, hfz95_0, hfz95_1, hfz95_2, hfz95_3, hfz95_4⟩ := blk5 BK237.out)); try go_wp2_with (first | (go_at_call 48; (with_reducible refine (remontoirref17_number.calls kj22 (rdOf ByteArray.empty l0 1) t250 false _ A39.out).mono ?_); rintro e w90 ⟨rfl, hb⟩; have n0_ := mk0 (blk_below (obk BK237.out) hb); have n1_ := mk0 (blk_below (obk BK238.out) hb); have n2_ := mk0 (bst HB.out hb); clear BK237; clear BK238; clear HB; have BK237 := n0_; have BK238 := n1_; have HB := n2_; clear n0_ n1_ n2_; (try clear hb); have hnb91 := NB238_237.out; have hnc91 := NB237_238.out; obtain ⟨hcz92_0, hcz92_1, hcz92_2, hcz92_3, hcz92_4, hfz92_0, hfz92_1, hfz92_2, hfz92_3, hfz92_4⟩ := blk5 BK238.out; have p260 : 0 ≤ (2 : Int) := (by omega); have q260 : 2 < (l0.length : Int) := of_decide_eq_true (by assumption); obtain ⟨ad260, e260, hx260_0⟩ := Kd.at_string HR0.out 2 p260 q260; obtain rfl : ad249 = ad260 := (by injection e260); (try simp only [show (2 : Int).toNat = 2 from rfl, Nat.reduceMul, Nat.reduceEqDiff, Go.Addr.add, ↓reduceIte] at hx260_0); have qi260 : (2 < l0.length) = True := eq_true (by omega); (try rw [show ((2 : Int)).toNat = 2 from rfl] at hx260_0); have hn260_0 : ad249.block ≠ gb238 := Nat.ne_of_lt (Nat.lt_of_lt_of_le (by have := World.block_lt_of_cell? _ _ hx260_0; first | rwa [add_block] at this | exact this) GW238.out); replace hx260_0 := (HB.out.cell (World.block_lt_of_cell? w _ hx260_0)).trans hx260_0; replace hx260_0 := (cell_far (p := ⟨gb238, 1, none⟩) (by first | (rw [add_block]; exact hn260_0) | (show (Addr.add _ _).block ≠ _; rw [add_block]; exact hn260_0) | exact hn260_0) (.int .i64 t250)).trans hx260_0; (try have hy260_0 := fun (n_ : Nat) => (show (((w90.drewN n_).setCell ⟨gb238, 1, none⟩ (.int .i64 t250))).cell? _ = some _ from hx260_0)); clear hn260_0; replace p260 := eq_true p260; replace q260 := eq_true q260) | (go_at_call 48; (with_reducible refine (remontoirref17_number.calls kj22 (rdOf ByteArray.empty l0 2) t261 t262 _ A81.out).mono ?_); rintro e w93 ⟨rfl, hb⟩; have n0_ := mk0 (blk_below (obf BK237.out) hb); have n1_ := mk0 (blk_below (g := gb238) (o := .cells #[.int .i64 x239000_2, .int .i64 t250, .int .i64 0, .int .i64 0, .string (⟨#[]⟩ : ByteArray)] 40 (0, 0)) (by exact obk (blk_put (obk BK238.out) 1 _ rfl)) hb); have n2_ := mk0 (bst HB.out hb); clear BK237; clear BK238; clear HB; have BK237 := n0_; have BK238 := n1_; have HB := n2_; clear n0_ n1_ n2_; (try clear hb); obtain ⟨hcz94_0, hcz94_1, hcz94_2, hcz94_3, hcz94_4, hfz94_0, hfz94_1, hfz94_2, hfz94_3, hfz94_4⟩ := blk5 BK238.out; have p263 : 0 ≤ (3 : Int) := (by omega); have q263 : 3 < (l0.length : Int) := of_decide_eq_true (by assumption); obtain ⟨ad263, e263, hx263_0⟩ := Kd.at_string HR0.out 3 p263 q263; obtain rfl : ad249 = ad263 := (by injection e263); (try simp only [show (3 : Int).toNat = 3 from rfl, Nat.reduceMul, Nat.reduceEqDiff, Go.Addr.add, ↓reduceIte] at hx263_0); have qi263 : (3 < l0.length) = True := eq_true (by omega); (try rw [show ((3 : Int)).toNat = 3 from rfl] at hx263_0); have hn263_0 : ad249.block ≠ gb238 := Nat.ne_of_lt (Nat.lt_of_lt_of_le (by have := World.block_lt_of_cell? _ _ hx263_0; first | rwa [add_block] at this | exact this) GW238.out); replace hx263_0 := (HB.out.cell (World.block_lt_of_cell? w _ hx263_0)).trans hx263_0; replace hx263_0 := (cell_far (p := ⟨gb238, 3, none⟩) (by first | (rw [add_block]; exact hn263_0) | (show (Addr.add _ _).block ≠ _; rw [add_block]; exact hn263_0) | exact hn263_0) (.int .i64 t261)).trans hx263_0; (try have hy263_0 := fun (n_ : Nat) => (show (((w93.drewN n_).setCell ⟨gb238, 3, none⟩ (.int .i64 t261))).cell? _ = some _ from hx263_0)); clear hn263_0; replace p263 := eq_true p263; replace q263 := eq_true q263; obtain ⟨hcz95_0, hcz95_1, hcz95_2, hcz95_3, hcz95_4, hfz95_0, hfz95_1, hfz95_2, hfz95_3, hfz95_4⟩ := blk5 BK237.out)))
                  refine bodyPost_ret (results_ct rfl _ _ gb237 40 #[.int .i64 x239000_2, .int .i64 t250, .int .i64 0, .int .i64 t261, .string (rdOf ByteArray.empty l0 3)] (0, 0) _ rfl (by exact obk (blk_put (obk (blk_put (obk (blk_put (obk (blk_put (obk (blk_put (obk (blkf (obk (blkf (obk BK237.out) NB237_238.out)) NB237_238.out)) 0 _ rfl)) 1 _ rfl)) 2 _ rfl)) 3 _ rfl)) 4 _ rfl)) Tryd.underlying40 rfl (by kernel_rfl)) rfl ?_
                  exact ⟨by first | rfl | (simp [*, errW_none, errW_some] <;> rfl), by exact bok HB.out⟩
                ·
                 rw [if_neg c82] at H
                 exact absurd H (by simp)
               ·
                rw [if_neg c80] at H
                exact absurd H (by simp)
              ·
               rw [if_neg c79] at H
               have c79b0 : (x239000_2 == 9) = false := beq_eq_false_iff_ne.mpr c79
               have c79b1 : (x239000_2 != 9) = true := bne_iff_ne.mpr c79
               simp only [Option.some.injEq, Prod.mk.injEq] at H
               obtain ⟨rfl, rfl, rfl, rfl, rfl, rfl⟩ := H
               have p249 : 0 ≤ (1 : Int) := (by omega)
               have q249 : 1 < (l0.length : Int) := of_decide_eq_true (by assumption)
               obtain ⟨ad249, e249, hx249_0⟩ := Kd.at_string HR0.out 1 p249 q249
               cases e249
               (try simp only [show (1 : Int).toNat = 1 from rfl, Nat.reduceMul, Nat.reduceEqDiff, Go.Addr.add, ↓reduceIte] at hx249_0)
               have qi249 : (1 < l0.length) = True := eq_true (by omega)
               (try rw [show ((1 : Int)).toNat = 1 from rfl] at hx249_0)
               replace hx249_0 := (HB.out.cell (World.block_lt_of_cell? w _ hx249_0)).trans hx249_0
               replace p249 := eq_true p249
               replace q249 := eq_true q249
               go_wp2_with (first | (go_at_call 48; (with_reducible refine (remontoirref17_number.calls kj22 (rdOf ByteArray.empty l0 1) t250 t251 _ A39.out).mono ?_); rintro e w96 ⟨rfl, hb⟩; have n0_ := mk0 (blk_below (obk BK237.out) hb); have n1_ := mk0 (blk_below (obk BK238.out) hb); have n2_ := mk0 (bst HB.out hb); clear BK237; clear BK238; clear HB; have BK237 := n0_; have BK238 := n1_; have HB := n2_; clear n0_ n1_ n2_; (try clear hb); have hnb97 := NB238_237.out; have hnc97 := NB237_238.out; obtain ⟨hcz98_0, hcz98_1, hcz98_2, hcz98_3, hcz98_4, hfz98_0, hfz98_1, hfz98_2, hfz98_3, hfz98_4⟩ := blk5 BK238.out; obtain ⟨hcz99_0, hcz99_1, hcz99_2, hcz99_3, hcz99_4, hfz99_0, hfz99_1, hfz99_2, hfz99_3, hfz99_4⟩ := blk5 BK237.out))
               repeat (go_quiet (first | (go_at_call 48; (with_reducible refine (remontoirref17_number.calls kj22 (rdOf ByteArray.empty l0 1) t250 t251 _ A39.out).mono ?_); rintro e w96 ⟨rfl, hb⟩; have n0_ := mk0 (blk_below (obk BK237.out) hb); have n1_ := mk0 (blk_below (obk BK238.out) hb); have n2_ := mk0 (bst HB.out hb); clear BK237; clear BK238; clear HB; have BK237 := n0_; have BK238 := n1_; have HB := n2_; clear n0_ n1_ n2_; (try clear hb); have hnb97 := NB238_237.out; have hnc97 := NB237_238.out; obtain ⟨hcz98_0, hcz98_1, hcz98_2, hcz98_3, hcz98_4, hfz98_0, hfz98_1, hfz98_2, hfz98_3, hfz98_4⟩ := blk5 BK238.out; obtain ⟨hcz99_0, hcz99_1, hcz99_2, hcz99_3, hcz99_4, hfz99_0, hfz99_1, hfz99_2, hfz99_3, hfz99_4⟩ := blk5 BK237.out)); try go_wp2_with (first | (go_at_call 48; (with_reducible refine (remontoirref17_number.calls kj22 (rdOf ByteArray.empty l0 1) t250 t251 _ A39.out).mono ?_); rintro e w96 ⟨rfl, hb⟩; have n0_ := mk0 (blk_below (obk BK237.out) hb); have n1_ := mk0 (blk_below (obk BK238.out) hb); have n2_ := mk0 (bst HB.out hb); clear BK237; clear BK238; clear HB; have BK237 := n0_; have BK238 := n1_; have HB := n2_; clear n0_ n1_ n2_; (try clear hb); have hnb97 := NB238_237.out; have hnc97 := NB237_238.out; obtain ⟨hcz98_0, hcz98_1, hcz98_2, hcz98_3, hcz98_4, hfz98_0, hfz98_1, hfz98_2, hfz98_3, hfz98_4⟩ := blk5 BK238.out; obtain ⟨hcz99_0, hcz99_1, hcz99_2, hcz99_3, hcz99_4, hfz99_0, hfz99_1, hfz99_2, hfz99_3, hfz99_4⟩ := blk5 BK237.out)))
               refine bodyPost_ret (results_ct rfl _ _ gb237 40 #[.int .i64 x239000_2, .int .i64 t250, .int .i64 0, .int .i64 0, .string (⟨#[]⟩ : ByteArray)] (0, 0) _ rfl (by exact obk (blk_put (obk (blk_put (obk (blk_put (obk (blk_put (obk (blk_put (obk (blkf (obk BK237.out) NB237_238.out)) 0 _ rfl)) 1 _ rfl)) 2 _ rfl)) 3 _ rfl)) 4 _ rfl)) Tryd.underlying40 rfl (by kernel_rfl)) rfl ?_
               exact ⟨by first | rfl | (simp [*, errW_none, errW_some] <;> rfl), by exact bok HB.out⟩
          ·
           rw [if_neg c38] at H
           exact absurd H (by simp)

end Go.Proofs.YtpalncojmknlbaaDoor.Y
