/- What Go functions compute, as plain Lean functions, and that the machine comes to just that: written by wip/tools/printx.py (my run of the printer, with contracts of mine beside it). -/
import Derived.Test.YtpalncojmknlbaaDoorOn
import Derived.Test.YtpalncojmknlbaaDoorAx0
import Derived.Test.YtpalncojmknlbaaDoorAx1
namespace Go.Proofs.YtpalncojmknlbaaDoor.A
open Go.Proofs.YtpalncojmknlbaaDoor.Ext Go.RowKit Go.Proofs.YtpalncojmknlbaaDoorW.PrintWords Go.Proofs.YtpalncojmknlbaaDoorW.PrintLast Go.Proofs.YtpalncojmknlbaaDoorW.PrintMore
attribute [local go_sem] max2_int min2_int max_two min_two max_three min_three max_four min_four   -- for this text's walks alone
set_option linter.unusedVariables false
set_option linter.unusedSimpArgs false

/-! ### def_flow: function 40 -/
def def_flow.j0 : Nat → ByteArray → Bool → Bool → Int → Int → Int → Int → ByteArray → Option (Int × Int × Int × Int × ByteArray × Bool)
 | 0, _, _, _, _, _, _, _, _ => none
 | k + 1, x0, x7, x46, x128000, x128001, x128002, x128003, x128004 => if x46 = true then (some (0, 0, 0, 0, (⟨#[]⟩ : ByteArray), false)) else (if x7 = true then (if x0.toList = ([100, 101, 102, 97, 117, 108, 116] : List UInt8) then (some (x128000, x128001, 1, x128003, x128004, true)) else ((strings_CutPrefix.f x0 (⟨#[97, 103, 97, 105, 110, 32]⟩ : ByteArray)).bind fun bt128 => (if bt128.2 = true then ((strings_Cut.f bt128.1 (⟨#[32]⟩ : ByteArray)).bind fun bt130 => ((words_Number.f k bt130.1 999).bind fun bt133 => (if bt133.2 = true then ((def_test.f bt130.2.1).bind fun bt135 => (if bt135.2 = true then (some (x128000, x128001, 3, bt133.1, bt135.1, true)) else (some (0, 0, 0, 0, (⟨#[]⟩ : ByteArray), false)))) else (some (0, 0, 0, 0, (⟨#[]⟩ : ByteArray), false))))) else ((def_test.f x0).bind fun bt137 => (if bt137.2 = true then (some (x128000, x128001, 2, x128003, bt137.1, true)) else (some (0, 0, 0, 0, (⟨#[]⟩ : ByteArray), false))))))) else (some (x128000, x128001, x128002, x128003, x128004, true)))
def def_flow.f (k : Nat) (a0 : ByteArray) : Option (Int × Int × Int × Int × ByteArray × Bool) := (strings_Cut.f a0 (⟨#[32]⟩ : ByteArray)).bind fun bt117 => ((strings_Cut.f bt117.2.1 (⟨#[32]⟩ : ByteArray)).bind fun bt120 => ((words_Number.f k bt117.1 999).bind fun bt123 => ((words_Number.f k bt120.1 999).bind fun bt125 => (if bt123.2 = true then (def_flow.j0 k bt120.2.1 bt120.2.2 (!bt125.2) bt123.1 bt125.1 0 0 (⟨#[]⟩ : ByteArray)) else (def_flow.j0 k bt120.2.1 bt120.2.2 true bt123.1 bt125.1 0 0 (⟨#[]⟩ : ByteArray))))))
theorem def_flow.mono_l : ∀ k, (∀ y0 y1 y2 y3 y4 y5 y6 y7, LeO (def_flow.j0 k y0 y1 y2 y3 y4 y5 y6 y7) (def_flow.j0 (k + 1) y0 y1 y2 y3 y4 y5 y6 y7))
 | 0 => fun _ _ _ _ _ _ _ _ r h => by simp [def_flow.j0] at h
 | k + 1 => by
  have ih0 := def_flow.mono_l k
  ·
   intro y0 y1 y2 y3 y4 y5 y6 y7
   unfold def_flow.j0
   repeat' first
   | (with_reducible exact ih0 _ _ _ _ _ _ _ _)
   | (with_reducible exact words_Number.mono _ _ _)
   | (with_reducible exact LeO.refl _)
   | (with_reducible exact LeO.none _)
   | (with_reducible refine LeO.ite ?_ ?_)
   | (with_reducible refine LeO.bind ?_ (fun _ => ?_))
   | exact ih0 _ _ _ _ _ _ _ _
   | exact words_Number.mono _ _ _
   | exact LeO.none _
   | refine LeO.ite ?_ ?_
   | refine LeO.bind ?_ (fun _ => ?_)
theorem def_flow.mono : ∀ a0 k, LeO (def_flow.f k a0) (def_flow.f (k + 1) a0) := by
 intro a0 k
 have ih0 := def_flow.mono_l k
 unfold def_flow.f
 repeat' first
   | (with_reducible exact ih0 _ _ _ _ _ _ _ _)
   | (with_reducible exact words_Number.mono _ _ _)
   | (with_reducible exact LeO.refl _)
   | (with_reducible exact LeO.none _)
   | (with_reducible refine LeO.ite ?_ ?_)
   | (with_reducible refine LeO.bind ?_ (fun _ => ?_))
   | exact ih0 _ _ _ _ _ _ _ _
   | exact words_Number.mono _ _ _
   | exact LeO.none _
   | refine LeO.ite ?_ ?_
   | refine LeO.bind ?_ (fun _ => ?_)
set_option maxHeartbeats 8000000 in
set_option maxRecDepth 100000 in
theorem def_flow.calls (k : Nat) (a0 : ByteArray) (r1 : Int) (r2 : Int) (r3 : Int) (r4 : Int) (r5 : ByteArray) (r6 : Bool) (w : World) (h : def_flow.f k a0 = some (r1, r2, r3, r4, r5, r6)) :
  Calls Tryd.prog 40 #[.string a0] w fun e w' => e = .returned (.tuple #[.agg #[.int .i64 r1, .int .i64 r2, .int .i64 r3, .int .i64 r4, .string r5], .bool r6]) ∧ Below w.heap.size w w' := by
 have hu42 := Tryd.underlying42
 have HB := mk0 (Below.refl w.heap.size w)
 have H : ((strings_Cut.f a0 (⟨#[32]⟩ : ByteArray)).bind fun bt117 => ((strings_Cut.f bt117.2.1 (⟨#[32]⟩ : ByteArray)).bind fun bt120 => ((words_Number.f k bt117.1 999).bind fun bt123 => ((words_Number.f k bt120.1 999).bind fun bt125 => (if bt123.2 = true then (def_flow.j0 k bt120.2.1 bt120.2.2 (!bt125.2) bt123.1 bt125.1 0 0 (⟨#[]⟩ : ByteArray)) else (def_flow.j0 k bt120.2.1 bt120.2.2 true bt123.1 bt125.1 0 0 (⟨#[]⟩ : ByteArray))))))) = some (r1, r2, r3, r4, r5, r6) := h
 clear h
 replace H := Option.bind_eq_some_iff.mp H
 obtain ⟨⟨t117, t118, t119⟩, A20, H⟩ := H
 replace H : ((strings_Cut.f t118 (⟨#[32]⟩ : ByteArray)).bind fun bt120 => ((words_Number.f k t117 999).bind fun bt123 => ((words_Number.f k bt120.1 999).bind fun bt125 => (if bt123.2 = true then (def_flow.j0 k bt120.2.1 bt120.2.2 (!bt125.2) bt123.1 bt125.1 0 0 (⟨#[]⟩ : ByteArray)) else (def_flow.j0 k bt120.2.1 bt120.2.2 true bt123.1 bt125.1 0 0 (⟨#[]⟩ : ByteArray)))))) = some (r1, r2, r3, r4, r5, r6) := H
 have A2 := mk0 A20
 clear A20
 replace H := Option.bind_eq_some_iff.mp H
 obtain ⟨⟨t120, t121, t122⟩, A30, H⟩ := H
 replace H : ((words_Number.f k t117 999).bind fun bt123 => ((words_Number.f k t120 999).bind fun bt125 => (if bt123.2 = true then (def_flow.j0 k t121 t122 (!bt125.2) bt123.1 bt125.1 0 0 (⟨#[]⟩ : ByteArray)) else (def_flow.j0 k t121 t122 true bt123.1 bt125.1 0 0 (⟨#[]⟩ : ByteArray))))) = some (r1, r2, r3, r4, r5, r6) := H
 have A3 := mk0 A30
 clear A30
 replace H := Option.bind_eq_some_iff.mp H
 obtain ⟨⟨t123, t124⟩, A40, H⟩ := H
 replace H : ((words_Number.f k t120 999).bind fun bt125 => (if t124 = true then (def_flow.j0 k t121 t122 (!bt125.2) t123 bt125.1 0 0 (⟨#[]⟩ : ByteArray)) else (def_flow.j0 k t121 t122 true t123 bt125.1 0 0 (⟨#[]⟩ : ByteArray)))) = some (r1, r2, r3, r4, r5, r6) := H
 have A4 := mk0 A40
 clear A40
 replace H := Option.bind_eq_some_iff.mp H
 obtain ⟨⟨t125, t126⟩, A50, H⟩ := H
 replace H : (if t124 = true then (def_flow.j0 k t121 t122 (!t126) t123 t125 0 0 (⟨#[]⟩ : ByteArray)) else (def_flow.j0 k t121 t122 true t123 t125 0 0 (⟨#[]⟩ : ByteArray))) = some (r1, r2, r3, r4, r5, r6) := H
 have A5 := mk0 A50
 clear A50
 have HC6 := mk0 H
 clear H
 go_enter Tryd.func40, Tryd.ntmps40
 go_upto_region 6 with (first | ((with_reducible refine gate_dst (N := 2) rfl ?_); refine box_event ?hg (N := 2) ?hd (cs := #[.int .i64 0, .int .i64 0, .int .i64 0, .int .i64 0, .string (⟨#[]⟩ : ByteArray)]) (t := 42) ?hr ?_; (case hd => rfl); (case hg => rfl); (case hr => first | (go_simp; done) | (go_simp; rfl)); intro gb116 hg w7 hbox hb; have n0_ := mk0 (bst HB.out hb); have n1_ := mk0 (hbox); have n2_ := mk0 (gle hg HB.out); have n3_ := mk0 (gle hg HB.out); clear HB; have HB := n0_; have BK116 := n1_; have GW116 := n2_; have GE116 := n3_; clear n0_ n1_ n2_ n3_; clear hb hbox hg) | ((with_reducible refine gate_callee (f := 38) rfl ?_); refine goesL_ (some 18) rfl rfl Tryd.func38 (by kernel_rfl) rfl #[.string a0, .string (⟨#[32]⟩ : ByteArray)] rfl (by (try simp only [List.map_toArray, List.map_cons, List.map_nil]); first | done | rfl | (simp only [List.length_drop, List.length_take]; rfl)) ?_; (with_reducible refine (strings_Cut.calls a0 (⟨#[32]⟩ : ByteArray) t117 t118 t119 _ A2.out).mono ?_); rintro e w' ⟨rfl, ⟨nd, rfl⟩⟩; refine ⟨_, rfl, ?_⟩; (try (rw [drewN_self w7]; generalize hq_ : World.drewN w7 _ = w7; have n0_ : Aside0 (w7.heap[gb116]? = some (.cells #[.int .i64 0, .int .i64 0, .int .i64 0, .int .i64 0, .string (⟨#[]⟩ : ByteArray)] 42 (0, 0))) := ⟨by rw [← hq_]; exact (by exact obk BK116.out)⟩; have n1_ : Aside0 (Below w.heap.size w w7) := ⟨by rw [← hq_]; exact (by exact bok HB.out)⟩; clear BK116 HB hq_; have BK116 := n0_; have HB := n1_; clear n0_ n1_))) | ((with_reducible refine gate_callee (f := 38) rfl ?_); refine goesL_ (some 24) rfl rfl Tryd.func38 (by kernel_rfl) rfl #[.string t118, .string (⟨#[32]⟩ : ByteArray)] rfl (by (try simp only [List.map_toArray, List.map_cons, List.map_nil]); first | done | rfl | (simp only [List.length_drop, List.length_take]; rfl)) ?_; (with_reducible refine (strings_Cut.calls t118 (⟨#[32]⟩ : ByteArray) t120 t121 t122 _ A3.out).mono ?_); rintro e w' ⟨rfl, ⟨nd, rfl⟩⟩; refine ⟨_, rfl, ?_⟩; (try (rw [drewN_self w7]; generalize hq_ : World.drewN w7 _ = w7; have n0_ : Aside0 (w7.heap[gb116]? = some (.cells #[.int .i64 0, .int .i64 0, .int .i64 0, .int .i64 0, .string (⟨#[]⟩ : ByteArray)] 42 (0, 0))) := ⟨by rw [← hq_]; exact (by exact obk BK116.out)⟩; have n1_ : Aside0 (Below w.heap.size w w7) := ⟨by rw [← hq_]; exact (by exact bok HB.out)⟩; clear BK116 HB hq_; have BK116 := n0_; have HB := n1_; clear n0_ n1_))) | ((with_reducible refine gate_callee (f := 51) rfl ?_); refine goesL_ (some 30) rfl rfl Tryd.func51 (by kernel_rfl) rfl #[.string t117, .int .i64 999] rfl (by (try simp only [List.map_toArray, List.map_cons, List.map_nil]); first | done | rfl | (simp only [List.length_drop, List.length_take]; rfl)) ?_; (with_reducible refine (words_Number.calls k t117 999 t123 t124 _ A4.out).mono ?_); rintro e w8 ⟨rfl, hb⟩; refine ⟨_, rfl, ?_⟩; have n0_ := mk0 (blk_below (obk BK116.out) hb); have n1_ := mk0 (bst HB.out hb); clear BK116; clear HB; have BK116 := n0_; have HB := n1_; clear n0_ n1_; (try clear hb)) | ((with_reducible refine gate_callee (f := 51) rfl ?_); refine goesL_ (some 35) rfl rfl Tryd.func51 (by kernel_rfl) rfl #[.string t120, .int .i64 999] rfl (by (try simp only [List.map_toArray, List.map_cons, List.map_nil]); first | done | rfl | (simp only [List.length_drop, List.length_take]; rfl)) ?_; (with_reducible refine (words_Number.calls k t120 999 t125 t126 _ A5.out).mono ?_); rintro e w9 ⟨rfl, hb⟩; refine ⟨_, rfl, ?_⟩; have n0_ := mk0 (blk_below (obk BK116.out) hb); have n1_ := mk0 (bst HB.out hb); clear BK116; clear HB; have BK116 := n0_; have HB := n1_; clear n0_ n1_; (try clear hb)) | ((with_reducible refine gate_dst (N := 12) rfl ?_); refine box_event ?hg (N := 12) ?hd (cs := #[.int .i64 0, .int .i64 0, .int .i64 0, .int .i64 0, .string (⟨#[]⟩ : ByteArray)]) (t := 42) ?hr ?_; (case hd => rfl); (case hg => rfl); (case hr => first | (go_simp; done) | (go_simp; rfl)); intro gb127 hg w10 hbox hb; have n0_ := mk0 (blk_below (obk BK116.out) hb); have n1_ := mk0 (bst HB.out hb); have n2_ := mk0 (hbox); have n3_ := mk0 (gle hg HB.out); have n4_ := mk0 (gle hg HB.out); have n5_ := mk0 (nlt hg BK116.out); have n6_ := mk0 (ngt hg BK116.out); clear BK116; clear HB; have BK116 := n0_; have HB := n1_; have BK127 := n2_; have GW127 := n3_; have GE127 := n4_; have NB116_127 := n5_; have NB127_116 := n6_; clear n0_ n1_ n2_ n3_ n4_ n5_ n6_; clear hb hbox hg; have hnb11 := NB127_116.out; have hnc11 := NB116_127.out; obtain ⟨hcz12_0, hcz12_1, hcz12_2, hcz12_3, hcz12_4, hfz12_0, hfz12_1, hfz12_2, hfz12_3, hfz12_4⟩ := blk5 BK127.out))
 (try simp only [Act.put, List.setIfInBounds_toArray, List.set_cons_zero, List.set_cons_succ])
 go_cut [46] (fun v46 wc => ∃ (kq : Nat) (x46_5 : Bool), v46 = .bool x46_5 ∧ Aside0 (def_flow.j0 kq t121 t122 x46_5 t123 t125 0 0 (⟨#[]⟩ : ByteArray) = some (r1, r2, r3, r4, r5, r6)) ∧ Aside0 (kq ≤ k) ∧ Aside0 (wc.heap[gb116]? = some (.cells #[.int .i64 0, .int .i64 0, .int .i64 0, .int .i64 0, .string (⟨#[]⟩ : ByteArray)] 42 (0, 0))) ∧ Aside0 (wc.heap[gb127]? = some (.cells #[.int .i64 t123, .int .i64 t125, .int .i64 0, .int .i64 0, .string (⟨#[]⟩ : ByteArray)] 42 (0, 0))) ∧ Aside0 (Below w.heap.size w wc))
 case first =>
  have H := HC6.out
  clear HC6
  by_cases c13 : t124 = true
  ·
   subst c13
   have H1 : (def_flow.j0 k t121 t122 (!t126) t123 t125 0 0 (⟨#[]⟩ : ByteArray)) = some (r1, r2, r3, r4, r5, r6) := by rw [if_pos rfl] at H; exact H
   clear H
   have H := H1
   clear H1
   have H' := mk0 H
   clear H
   go_wp2
   go_meet
   case rel => exact ⟨_, (!t126), (by first | rfl | (simp; done) | (simp [*]; done)), H', ⟨by first | omega | exact Nat.le_refl _⟩, ⟨by refine obk ?_; refine blk_far ?_ NB116_127.out _; refine obk ?_; refine blk_far ?_ NB116_127.out _; refine obk ?_; refine blk_far ?_ NB116_127.out _; refine obk ?_; refine blk_far ?_ NB116_127.out _; refine obk ?_; refine blk_far ?_ NB116_127.out _; exact obk BK116.out⟩, ⟨by refine obk ?_; refine blk_put (cs := #[.int .i64 t123, .int .i64 t125, .int .i64 0, .int .i64 0, .string (⟨#[]⟩ : ByteArray)]) ?_ 4 _ rfl; refine obk ?_; refine blk_put (cs := #[.int .i64 t123, .int .i64 t125, .int .i64 0, .int .i64 0, .string (⟨#[]⟩ : ByteArray)]) ?_ 3 _ rfl; refine obk ?_; refine blk_put (cs := #[.int .i64 t123, .int .i64 t125, .int .i64 0, .int .i64 0, .string (⟨#[]⟩ : ByteArray)]) ?_ 2 _ rfl; refine obk ?_; refine blk_put (cs := #[.int .i64 t123, .int .i64 0, .int .i64 0, .int .i64 0, .string (⟨#[]⟩ : ByteArray)]) ?_ 1 _ rfl; refine obk ?_; refine blk_put (cs := #[.int .i64 0, .int .i64 0, .int .i64 0, .int .i64 0, .string (⟨#[]⟩ : ByteArray)]) ?_ 0 _ rfl; exact obk BK127.out⟩, ⟨by exact bok HB.out⟩⟩
  ·
   replace c13 := Bool.eq_false_iff.mpr c13
   subst c13
   have H1 : (def_flow.j0 k t121 t122 true t123 t125 0 0 (⟨#[]⟩ : ByteArray)) = some (r1, r2, r3, r4, r5, r6) := by rw [if_neg (show ¬ (false = true) by decide)] at H; exact H
   clear H
   have H := H1
   clear H1
   have H' := mk0 H
   clear H
   go_wp2
   go_meet
   case rel => exact ⟨_, (true), (by first | rfl | (simp; done) | (simp [*]; done)), H', ⟨by first | omega | exact Nat.le_refl _⟩, ⟨by refine obk ?_; refine blk_far ?_ NB116_127.out _; refine obk ?_; refine blk_far ?_ NB116_127.out _; refine obk ?_; refine blk_far ?_ NB116_127.out _; refine obk ?_; refine blk_far ?_ NB116_127.out _; refine obk ?_; refine blk_far ?_ NB116_127.out _; exact obk BK116.out⟩, ⟨by refine obk ?_; refine blk_put (cs := #[.int .i64 t123, .int .i64 t125, .int .i64 0, .int .i64 0, .string (⟨#[]⟩ : ByteArray)]) ?_ 4 _ rfl; refine obk ?_; refine blk_put (cs := #[.int .i64 t123, .int .i64 t125, .int .i64 0, .int .i64 0, .string (⟨#[]⟩ : ByteArray)]) ?_ 3 _ rfl; refine obk ?_; refine blk_put (cs := #[.int .i64 t123, .int .i64 t125, .int .i64 0, .int .i64 0, .string (⟨#[]⟩ : ByteArray)]) ?_ 2 _ rfl; refine obk ?_; refine blk_put (cs := #[.int .i64 t123, .int .i64 0, .int .i64 0, .int .i64 0, .string (⟨#[]⟩ : ByteArray)]) ?_ 1 _ rfl; refine obk ?_; refine blk_put (cs := #[.int .i64 0, .int .i64 0, .int .i64 0, .int .i64 0, .string (⟨#[]⟩ : ByteArray)]) ?_ 0 _ rfl; exact obk BK127.out⟩, ⟨by exact bok HB.out⟩⟩
 case rest =>
  clear HC6
  try clear c1
  try clear p2
  try clear c3
  try clear c4
  try clear c5
  try clear c11
  try clear c13
  obtain ⟨kq, x46_5, rfl, HA, HJ5, BK116, BK127, HB⟩ := hcut
  cases kq with
  | zero => exact absurd HA.out (by simp [def_flow.j0])
  | succ kj5 =>
   have H := HA.out
   clear HA
   simp only [def_flow.j0] at H
   by_cases c14 : x46_5 = true
   ·
    subst c14
    have H1 : (some (0, 0, 0, 0, (⟨#[]⟩ : ByteArray), false)) = some (r1, r2, r3, r4, r5, r6) := by rw [if_pos rfl] at H; exact H
    clear H
    have H := H1
    clear H1
    simp only [Option.some.injEq, Prod.mk.injEq] at H
    obtain ⟨rfl, rfl, rfl, rfl, rfl, rfl⟩ := H
    have hnb15 := NB116_127.out
    have hnc15 := NB127_116.out
    obtain ⟨hcz16_0, hcz16_1, hcz16_2, hcz16_3, hcz16_4, hfz16_0, hfz16_1, hfz16_2, hfz16_3, hfz16_4⟩ := blk5 BK116.out
    go_wp2
    refine bodyPost_ret (results_ct rfl _ _ gb116 42 #[.int .i64 0, .int .i64 0, .int .i64 0, .int .i64 0, .string (⟨#[]⟩ : ByteArray)] (0, 0) _ rfl (by exact obk (blk_put (obk (blk_put (obk (blk_put (obk (blk_put (obk (blk_put (obk BK116.out) 0 _ rfl)) 1 _ rfl)) 2 _ rfl)) 3 _ rfl)) 4 _ rfl)) Tryd.underlying42 rfl (by kernel_rfl)) rfl ?_
    exact ⟨by first | rfl | (simp [*, errW_none, errW_some] <;> rfl), by exact bok HB.out⟩
   ·
    replace c14 := Bool.eq_false_iff.mpr c14
    subst c14
    have H1 : (if t122 = true then (if t121.toList = ([100, 101, 102, 97, 117, 108, 116] : List UInt8) then (some (t123, t125, 1, 0, (⟨#[]⟩ : ByteArray), true)) else ((strings_CutPrefix.f t121 (⟨#[97, 103, 97, 105, 110, 32]⟩ : ByteArray)).bind fun bt128 => (if bt128.2 = true then ((strings_Cut.f bt128.1 (⟨#[32]⟩ : ByteArray)).bind fun bt130 => ((words_Number.f kj5 bt130.1 999).bind fun bt133 => (if bt133.2 = true then ((def_test.f bt130.2.1).bind fun bt135 => (if bt135.2 = true then (some (t123, t125, 3, bt133.1, bt135.1, true)) else (some (0, 0, 0, 0, (⟨#[]⟩ : ByteArray), false)))) else (some (0, 0, 0, 0, (⟨#[]⟩ : ByteArray), false))))) else ((def_test.f t121).bind fun bt137 => (if bt137.2 = true then (some (t123, t125, 2, 0, bt137.1, true)) else (some (0, 0, 0, 0, (⟨#[]⟩ : ByteArray), false))))))) else (some (t123, t125, 0, 0, (⟨#[]⟩ : ByteArray), true))) = some (r1, r2, r3, r4, r5, r6) := by rw [if_neg (show ¬ (false = true) by decide)] at H; exact H
    clear H
    have H := H1
    clear H1
    by_cases c17 : t122 = true
    ·
     subst c17
     have H1 : (if t121.toList = ([100, 101, 102, 97, 117, 108, 116] : List UInt8) then (some (t123, t125, 1, 0, (⟨#[]⟩ : ByteArray), true)) else ((strings_CutPrefix.f t121 (⟨#[97, 103, 97, 105, 110, 32]⟩ : ByteArray)).bind fun bt128 => (if bt128.2 = true then ((strings_Cut.f bt128.1 (⟨#[32]⟩ : ByteArray)).bind fun bt130 => ((words_Number.f kj5 bt130.1 999).bind fun bt133 => (if bt133.2 = true then ((def_test.f bt130.2.1).bind fun bt135 => (if bt135.2 = true then (some (t123, t125, 3, bt133.1, bt135.1, true)) else (some (0, 0, 0, 0, (⟨#[]⟩ : ByteArray), false)))) else (some (0, 0, 0, 0, (⟨#[]⟩ : ByteArray), false))))) else ((def_test.f t121).bind fun bt137 => (if bt137.2 = true then (some (t123, t125, 2, 0, bt137.1, true)) else (some (0, 0, 0, 0, (⟨#[]⟩ : ByteArray), false))))))) = some (r1, r2, r3, r4, r5, r6) := by rw [if_pos rfl] at H; exact H
     clear H
     have H := H1
     clear H1
     by_cases c18 : t121.toList = ([100, 101, 102, 97, 117, 108, 116] : List UInt8)
     ·
      rw [if_pos c18] at H
      have c18b0 : (t121.toList == ([100, 101, 102, 97, 117, 108, 116] : List UInt8)) = true := beq_iff_eq.mpr c18
      have c18b1 : (t121.toList != ([100, 101, 102, 97, 117, 108, 116] : List UInt8)) = false := bne_eq_false_iff_eq.mpr c18
      clear c18
      simp only [Option.some.injEq, Prod.mk.injEq] at H
      obtain ⟨rfl, rfl, rfl, rfl, rfl, rfl⟩ := H
      have hnb19 := NB127_116.out
      have hnc19 := NB116_127.out
      obtain ⟨hcz20_0, hcz20_1, hcz20_2, hcz20_3, hcz20_4, hfz20_0, hfz20_1, hfz20_2, hfz20_3, hfz20_4⟩ := blk5 BK127.out
      obtain ⟨hcz21_0, hcz21_1, hcz21_2, hcz21_3, hcz21_4, hfz21_0, hfz21_1, hfz21_2, hfz21_3, hfz21_4⟩ := blk5 BK116.out
      go_wp2
      refine bodyPost_ret (results_ct rfl _ _ gb116 42 #[.int .i64 t123, .int .i64 t125, .int .i64 1, .int .i64 0, .string (⟨#[]⟩ : ByteArray)] (0, 0) _ rfl (by exact obk (blk_put (obk (blk_put (obk (blk_put (obk (blk_put (obk (blk_put (obk (blkf (obk BK116.out) NB116_127.out)) 0 _ rfl)) 1 _ rfl)) 2 _ rfl)) 3 _ rfl)) 4 _ rfl)) Tryd.underlying42 rfl (by kernel_rfl)) rfl ?_
      exact ⟨by first | rfl | (simp [*, errW_none, errW_some] <;> rfl), by exact bok HB.out⟩
     ·
      rw [if_neg c18] at H
      have c18b0 : (t121.toList == ([100, 101, 102, 97, 117, 108, 116] : List UInt8)) = false := beq_eq_false_iff_ne.mpr c18
      have c18b1 : (t121.toList != ([100, 101, 102, 97, 117, 108, 116] : List UInt8)) = true := bne_iff_ne.mpr c18
      replace H := Option.bind_eq_some_iff.mp H
      obtain ⟨⟨t128, t129⟩, A220, H⟩ := H
      replace H : (if t129 = true then ((strings_Cut.f t128 (⟨#[32]⟩ : ByteArray)).bind fun bt130 => ((words_Number.f kj5 bt130.1 999).bind fun bt133 => (if bt133.2 = true then ((def_test.f bt130.2.1).bind fun bt135 => (if bt135.2 = true then (some (t123, t125, 3, bt133.1, bt135.1, true)) else (some (0, 0, 0, 0, (⟨#[]⟩ : ByteArray), false)))) else (some (0, 0, 0, 0, (⟨#[]⟩ : ByteArray), false))))) else ((def_test.f t121).bind fun bt137 => (if bt137.2 = true then (some (t123, t125, 2, 0, bt137.1, true)) else (some (0, 0, 0, 0, (⟨#[]⟩ : ByteArray), false))))) = some (r1, r2, r3, r4, r5, r6) := H
      have A22 := mk0 A220
      clear A220
      by_cases c23 : t129 = true
      ·
       subst c23
       have H1 : ((strings_Cut.f t128 (⟨#[32]⟩ : ByteArray)).bind fun bt130 => ((words_Number.f kj5 bt130.1 999).bind fun bt133 => (if bt133.2 = true then ((def_test.f bt130.2.1).bind fun bt135 => (if bt135.2 = true then (some (t123, t125, 3, bt133.1, bt135.1, true)) else (some (0, 0, 0, 0, (⟨#[]⟩ : ByteArray), false)))) else (some (0, 0, 0, 0, (⟨#[]⟩ : ByteArray), false))))) = some (r1, r2, r3, r4, r5, r6) := by rw [if_pos rfl] at H; exact H
       clear H
       have H := H1
       clear H1
       replace H := Option.bind_eq_some_iff.mp H
       obtain ⟨⟨t130, t131, t132⟩, A240, H⟩ := H
       replace H : ((words_Number.f kj5 t130 999).bind fun bt133 => (if bt133.2 = true then ((def_test.f t131).bind fun bt135 => (if bt135.2 = true then (some (t123, t125, 3, bt133.1, bt135.1, true)) else (some (0, 0, 0, 0, (⟨#[]⟩ : ByteArray), false)))) else (some (0, 0, 0, 0, (⟨#[]⟩ : ByteArray), false)))) = some (r1, r2, r3, r4, r5, r6) := H
       have A24 := mk0 A240
       clear A240
       replace H := Option.bind_eq_some_iff.mp H
       obtain ⟨⟨t133, t134⟩, A250, H⟩ := H
       replace H : (if t134 = true then ((def_test.f t131).bind fun bt135 => (if bt135.2 = true then (some (t123, t125, 3, t133, bt135.1, true)) else (some (0, 0, 0, 0, (⟨#[]⟩ : ByteArray), false)))) else (some (0, 0, 0, 0, (⟨#[]⟩ : ByteArray), false))) = some (r1, r2, r3, r4, r5, r6) := H
       have A25 := mk0 A250
       clear A250
       by_cases c26 : t134 = true
       ·
        subst c26
        have H1 : ((def_test.f t131).bind fun bt135 => (if bt135.2 = true then (some (t123, t125, 3, t133, bt135.1, true)) else (some (0, 0, 0, 0, (⟨#[]⟩ : ByteArray), false)))) = some (r1, r2, r3, r4, r5, r6) := by rw [if_pos rfl] at H; exact H
        clear H
        have H := H1
        clear H1
        replace H := Option.bind_eq_some_iff.mp H
        obtain ⟨⟨t135, t136⟩, A270, H⟩ := H
        replace H : (if t136 = true then (some (t123, t125, 3, t133, t135, true)) else (some (0, 0, 0, 0, (⟨#[]⟩ : ByteArray), false))) = some (r1, r2, r3, r4, r5, r6) := H
        have A27 := mk0 A270
        clear A270
        by_cases c28 : t136 = true
        ·
         subst c28
         have H1 : (some (t123, t125, 3, t133, t135, true)) = some (r1, r2, r3, r4, r5, r6) := by rw [if_pos rfl] at H; exact H
         clear H
         have H := H1
         clear H1
         simp only [Option.some.injEq, Prod.mk.injEq] at H
         obtain ⟨rfl, rfl, rfl, rfl, rfl, rfl⟩ := H
         have hnb29 := NB127_116.out
         have hnc29 := NB116_127.out
         obtain ⟨hcz30_0, hcz30_1, hcz30_2, hcz30_3, hcz30_4, hfz30_0, hfz30_1, hfz30_2, hfz30_3, hfz30_4⟩ := blk5 BK127.out
         go_wp2_with (first | ((with_reducible refine gate_callee (f := 52) rfl ?_); refine goesL_ (some 58) rfl rfl Tryd.func52 (by kernel_rfl) rfl #[.string t121, .string (⟨#[97, 103, 97, 105, 110, 32]⟩ : ByteArray)] rfl (by (try simp only [List.map_toArray, List.map_cons, List.map_nil]); first | done | rfl | (simp only [List.length_drop, List.length_take]; rfl)) ?_; (with_reducible refine (strings_CutPrefix.calls t121 (⟨#[97, 103, 97, 105, 110, 32]⟩ : ByteArray) t128 true _ A22.out).mono ?_); rintro e w' ⟨rfl, ⟨nd, rfl⟩⟩; refine ⟨_, rfl, ?_⟩) | ((with_reducible refine gate_callee (f := 38) rfl ?_); refine goesL_ (some 64) rfl rfl Tryd.func38 (by kernel_rfl) rfl #[.string t128, .string (⟨#[32]⟩ : ByteArray)] rfl (by (try simp only [List.map_toArray, List.map_cons, List.map_nil]); first | done | rfl | (simp only [List.length_drop, List.length_take]; rfl)) ?_; (with_reducible refine (strings_Cut.calls t128 (⟨#[32]⟩ : ByteArray) t130 t131 t132 _ A24.out).mono ?_); rintro e w' ⟨rfl, ⟨nd, rfl⟩⟩; refine ⟨_, rfl, ?_⟩) | ((with_reducible refine gate_callee (f := 51) rfl ?_); refine goesL_ (some 70) rfl rfl Tryd.func51 (by kernel_rfl) rfl #[.string t130, .int .i64 999] rfl (by (try simp only [List.map_toArray, List.map_cons, List.map_nil]); first | done | rfl | (simp only [List.length_drop, List.length_take]; rfl)) ?_; (with_reducible refine (words_Number.calls kj5 t130 999 t133 true _ A25.out).mono ?_); rintro e w31 ⟨rfl, hb⟩; refine ⟨_, rfl, ?_⟩; have n0_ := mk0 (blk_below (obf BK116.out) hb); have n1_ := mk0 (blk_below (g := gb127) (o := .cells #[.int .i64 t123, .int .i64 t125, .int .i64 2, .int .i64 0, .string (⟨#[]⟩ : ByteArray)] 42 (0, 0)) (by exact obk (blk_put (obk BK127.out) 2 _ rfl)) hb); have n2_ := mk0 (bst HB.out hb); clear BK116; clear BK127; clear HB; have BK116 := n0_; have BK127 := n1_; have HB := n2_; clear n0_ n1_ n2_; (try clear hb); obtain ⟨hcz32_0, hcz32_1, hcz32_2, hcz32_3, hcz32_4, hfz32_0, hfz32_1, hfz32_2, hfz32_3, hfz32_4⟩ := blk5 BK127.out) | ((with_reducible refine gate_callee (f := 53) rfl ?_); refine goesL_ (some 80) rfl rfl Tryd.func53 (by kernel_rfl) rfl #[.string t131] rfl (by (try simp only [List.map_toArray, List.map_cons, List.map_nil]); first | done | rfl | (simp only [List.length_drop, List.length_take]; rfl)) ?_; (with_reducible refine (def_test.calls t131 t135 true _ A27.out).mono ?_); rintro e w' ⟨rfl, ⟨nd, rfl⟩⟩; refine ⟨_, rfl, ?_⟩; obtain ⟨hcz33_0, hcz33_1, hcz33_2, hcz33_3, hcz33_4, hfz33_0, hfz33_1, hfz33_2, hfz33_3, hfz33_4⟩ := blk5 BK116.out))
         refine bodyPost_ret (results_ct rfl _ _ gb116 42 #[.int .i64 t123, .int .i64 t125, .int .i64 3, .int .i64 t133, .string t135] (0, 0) _ rfl (by exact obk (blk_put (obk (blk_put (obk (blk_put (obk (blk_put (obk (blk_put (obk (blkf (obk (blkf (obk (blkf (obk BK116.out) NB116_127.out)) NB116_127.out)) NB116_127.out)) 0 _ rfl)) 1 _ rfl)) 2 _ rfl)) 3 _ rfl)) 4 _ rfl)) Tryd.underlying42 rfl (by kernel_rfl)) rfl ?_
         exact ⟨by first | rfl | (simp [*, errW_none, errW_some] <;> rfl), by exact bok HB.out⟩
        ·
         replace c28 := Bool.eq_false_iff.mpr c28
         subst c28
         have H1 : (some (0, 0, 0, 0, (⟨#[]⟩ : ByteArray), false)) = some (r1, r2, r3, r4, r5, r6) := by rw [if_neg (show ¬ (false = true) by decide)] at H; exact H
         clear H
         have H := H1
         clear H1
         simp only [Option.some.injEq, Prod.mk.injEq] at H
         obtain ⟨rfl, rfl, rfl, rfl, rfl, rfl⟩ := H
         have hnb34 := NB127_116.out
         have hnc34 := NB116_127.out
         obtain ⟨hcz35_0, hcz35_1, hcz35_2, hcz35_3, hcz35_4, hfz35_0, hfz35_1, hfz35_2, hfz35_3, hfz35_4⟩ := blk5 BK127.out
         go_wp2_with (first | ((with_reducible refine gate_callee (f := 52) rfl ?_); refine goesL_ (some 58) rfl rfl Tryd.func52 (by kernel_rfl) rfl #[.string t121, .string (⟨#[97, 103, 97, 105, 110, 32]⟩ : ByteArray)] rfl (by (try simp only [List.map_toArray, List.map_cons, List.map_nil]); first | done | rfl | (simp only [List.length_drop, List.length_take]; rfl)) ?_; (with_reducible refine (strings_CutPrefix.calls t121 (⟨#[97, 103, 97, 105, 110, 32]⟩ : ByteArray) t128 true _ A22.out).mono ?_); rintro e w' ⟨rfl, ⟨nd, rfl⟩⟩; refine ⟨_, rfl, ?_⟩) | ((with_reducible refine gate_callee (f := 38) rfl ?_); refine goesL_ (some 64) rfl rfl Tryd.func38 (by kernel_rfl) rfl #[.string t128, .string (⟨#[32]⟩ : ByteArray)] rfl (by (try simp only [List.map_toArray, List.map_cons, List.map_nil]); first | done | rfl | (simp only [List.length_drop, List.length_take]; rfl)) ?_; (with_reducible refine (strings_Cut.calls t128 (⟨#[32]⟩ : ByteArray) t130 t131 t132 _ A24.out).mono ?_); rintro e w' ⟨rfl, ⟨nd, rfl⟩⟩; refine ⟨_, rfl, ?_⟩) | ((with_reducible refine gate_callee (f := 51) rfl ?_); refine goesL_ (some 70) rfl rfl Tryd.func51 (by kernel_rfl) rfl #[.string t130, .int .i64 999] rfl (by (try simp only [List.map_toArray, List.map_cons, List.map_nil]); first | done | rfl | (simp only [List.length_drop, List.length_take]; rfl)) ?_; (with_reducible refine (words_Number.calls kj5 t130 999 t133 true _ A25.out).mono ?_); rintro e w36 ⟨rfl, hb⟩; refine ⟨_, rfl, ?_⟩; have n0_ := mk0 (blk_below (obf BK116.out) hb); have n1_ := mk0 (blk_below (g := gb127) (o := .cells #[.int .i64 t123, .int .i64 t125, .int .i64 2, .int .i64 0, .string (⟨#[]⟩ : ByteArray)] 42 (0, 0)) (by exact obk (blk_put (obk BK127.out) 2 _ rfl)) hb); have n2_ := mk0 (bst HB.out hb); clear BK116; clear BK127; clear HB; have BK116 := n0_; have BK127 := n1_; have HB := n2_; clear n0_ n1_ n2_; (try clear hb); obtain ⟨hcz37_0, hcz37_1, hcz37_2, hcz37_3, hcz37_4, hfz37_0, hfz37_1, hfz37_2, hfz37_3, hfz37_4⟩ := blk5 BK127.out) | ((with_reducible refine gate_callee (f := 53) rfl ?_); refine goesL_ (some 80) rfl rfl Tryd.func53 (by kernel_rfl) rfl #[.string t131] rfl (by (try simp only [List.map_toArray, List.map_cons, List.map_nil]); first | done | rfl | (simp only [List.length_drop, List.length_take]; rfl)) ?_; (with_reducible refine (def_test.calls t131 t135 false _ A27.out).mono ?_); rintro e w' ⟨rfl, ⟨nd, rfl⟩⟩; refine ⟨_, rfl, ?_⟩; obtain ⟨hcz38_0, hcz38_1, hcz38_2, hcz38_3, hcz38_4, hfz38_0, hfz38_1, hfz38_2, hfz38_3, hfz38_4⟩ := blk5 BK116.out))
         refine bodyPost_ret (results_ct rfl _ _ gb116 42 #[.int .i64 0, .int .i64 0, .int .i64 0, .int .i64 0, .string (⟨#[]⟩ : ByteArray)] (0, 0) _ rfl (by exact obk (blk_put (obk (blk_put (obk (blk_put (obk (blk_put (obk (blk_put (obk (blkf (obk (blkf (obk (blkf (obk BK116.out) NB116_127.out)) NB116_127.out)) NB116_127.out)) 0 _ rfl)) 1 _ rfl)) 2 _ rfl)) 3 _ rfl)) 4 _ rfl)) Tryd.underlying42 rfl (by kernel_rfl)) rfl ?_
         exact ⟨by first | rfl | (simp [*, errW_none, errW_some] <;> rfl), by exact bok HB.out⟩
       ·
        replace c26 := Bool.eq_false_iff.mpr c26
        subst c26
        have H1 : (some (0, 0, 0, 0, (⟨#[]⟩ : ByteArray), false)) = some (r1, r2, r3, r4, r5, r6) := by rw [if_neg (show ¬ (false = true) by decide)] at H; exact H
        clear H
        have H := H1
        clear H1
        simp only [Option.some.injEq, Prod.mk.injEq] at H
        obtain ⟨rfl, rfl, rfl, rfl, rfl, rfl⟩ := H
        have hnb39 := NB127_116.out
        have hnc39 := NB116_127.out
        obtain ⟨hcz40_0, hcz40_1, hcz40_2, hcz40_3, hcz40_4, hfz40_0, hfz40_1, hfz40_2, hfz40_3, hfz40_4⟩ := blk5 BK127.out
        go_wp2_with (first | ((with_reducible refine gate_callee (f := 52) rfl ?_); refine goesL_ (some 58) rfl rfl Tryd.func52 (by kernel_rfl) rfl #[.string t121, .string (⟨#[97, 103, 97, 105, 110, 32]⟩ : ByteArray)] rfl (by (try simp only [List.map_toArray, List.map_cons, List.map_nil]); first | done | rfl | (simp only [List.length_drop, List.length_take]; rfl)) ?_; (with_reducible refine (strings_CutPrefix.calls t121 (⟨#[97, 103, 97, 105, 110, 32]⟩ : ByteArray) t128 true _ A22.out).mono ?_); rintro e w' ⟨rfl, ⟨nd, rfl⟩⟩; refine ⟨_, rfl, ?_⟩) | ((with_reducible refine gate_callee (f := 38) rfl ?_); refine goesL_ (some 64) rfl rfl Tryd.func38 (by kernel_rfl) rfl #[.string t128, .string (⟨#[32]⟩ : ByteArray)] rfl (by (try simp only [List.map_toArray, List.map_cons, List.map_nil]); first | done | rfl | (simp only [List.length_drop, List.length_take]; rfl)) ?_; (with_reducible refine (strings_Cut.calls t128 (⟨#[32]⟩ : ByteArray) t130 t131 t132 _ A24.out).mono ?_); rintro e w' ⟨rfl, ⟨nd, rfl⟩⟩; refine ⟨_, rfl, ?_⟩) | ((with_reducible refine gate_callee (f := 51) rfl ?_); refine goesL_ (some 70) rfl rfl Tryd.func51 (by kernel_rfl) rfl #[.string t130, .int .i64 999] rfl (by (try simp only [List.map_toArray, List.map_cons, List.map_nil]); first | done | rfl | (simp only [List.length_drop, List.length_take]; rfl)) ?_; (with_reducible refine (words_Number.calls kj5 t130 999 t133 false _ A25.out).mono ?_); rintro e w41 ⟨rfl, hb⟩; refine ⟨_, rfl, ?_⟩; have n0_ := mk0 (blk_below (obf BK116.out) hb); have n1_ := mk0 (blk_below (g := gb127) (o := .cells #[.int .i64 t123, .int .i64 t125, .int .i64 2, .int .i64 0, .string (⟨#[]⟩ : ByteArray)] 42 (0, 0)) (by exact obk (blk_put (obk BK127.out) 2 _ rfl)) hb); have n2_ := mk0 (bst HB.out hb); clear BK116; clear BK127; clear HB; have BK116 := n0_; have BK127 := n1_; have HB := n2_; clear n0_ n1_ n2_; (try clear hb); obtain ⟨hcz42_0, hcz42_1, hcz42_2, hcz42_3, hcz42_4, hfz42_0, hfz42_1, hfz42_2, hfz42_3, hfz42_4⟩ := blk5 BK127.out; obtain ⟨hcz43_0, hcz43_1, hcz43_2, hcz43_3, hcz43_4, hfz43_0, hfz43_1, hfz43_2, hfz43_3, hfz43_4⟩ := blk5 BK116.out))
        refine bodyPost_ret (results_ct rfl _ _ gb116 42 #[.int .i64 0, .int .i64 0, .int .i64 0, .int .i64 0, .string (⟨#[]⟩ : ByteArray)] (0, 0) _ rfl (by exact obk (blk_put (obk (blk_put (obk (blk_put (obk (blk_put (obk (blk_put (obk (blkf (obk BK116.out) NB116_127.out)) 0 _ rfl)) 1 _ rfl)) 2 _ rfl)) 3 _ rfl)) 4 _ rfl)) Tryd.underlying42 rfl (by kernel_rfl)) rfl ?_
        exact ⟨by first | rfl | (simp [*, errW_none, errW_some] <;> rfl), by exact bok HB.out⟩
      ·
       replace c23 := Bool.eq_false_iff.mpr c23
       subst c23
       have H1 : ((def_test.f t121).bind fun bt137 => (if bt137.2 = true then (some (t123, t125, 2, 0, bt137.1, true)) else (some (0, 0, 0, 0, (⟨#[]⟩ : ByteArray), false)))) = some (r1, r2, r3, r4, r5, r6) := by rw [if_neg (show ¬ (false = true) by decide)] at H; exact H
       clear H
       have H := H1
       clear H1
       replace H := Option.bind_eq_some_iff.mp H
       obtain ⟨⟨t137, t138⟩, A440, H⟩ := H
       replace H : (if t138 = true then (some (t123, t125, 2, 0, t137, true)) else (some (0, 0, 0, 0, (⟨#[]⟩ : ByteArray), false))) = some (r1, r2, r3, r4, r5, r6) := H
       have A44 := mk0 A440
       clear A440
       by_cases c45 : t138 = true
       ·
        subst c45
        have H1 : (some (t123, t125, 2, 0, t137, true)) = some (r1, r2, r3, r4, r5, r6) := by rw [if_pos rfl] at H; exact H
        clear H
        have H := H1
        clear H1
        simp only [Option.some.injEq, Prod.mk.injEq] at H
        obtain ⟨rfl, rfl, rfl, rfl, rfl, rfl⟩ := H
        have hnb46 := NB127_116.out
        have hnc46 := NB116_127.out
        obtain ⟨hcz47_0, hcz47_1, hcz47_2, hcz47_3, hcz47_4, hfz47_0, hfz47_1, hfz47_2, hfz47_3, hfz47_4⟩ := blk5 BK127.out
        go_wp2_with (first | ((with_reducible refine gate_callee (f := 52) rfl ?_); refine goesL_ (some 58) rfl rfl Tryd.func52 (by kernel_rfl) rfl #[.string t121, .string (⟨#[97, 103, 97, 105, 110, 32]⟩ : ByteArray)] rfl (by (try simp only [List.map_toArray, List.map_cons, List.map_nil]); first | done | rfl | (simp only [List.length_drop, List.length_take]; rfl)) ?_; (with_reducible refine (strings_CutPrefix.calls t121 (⟨#[97, 103, 97, 105, 110, 32]⟩ : ByteArray) t128 false _ A22.out).mono ?_); rintro e w' ⟨rfl, ⟨nd, rfl⟩⟩; refine ⟨_, rfl, ?_⟩) | ((with_reducible refine gate_callee (f := 53) rfl ?_); refine goesL_ (some 80) rfl rfl Tryd.func53 (by kernel_rfl) rfl #[.string t121] rfl (by (try simp only [List.map_toArray, List.map_cons, List.map_nil]); first | done | rfl | (simp only [List.length_drop, List.length_take]; rfl)) ?_; (with_reducible refine (def_test.calls t121 t137 true _ A44.out).mono ?_); rintro e w' ⟨rfl, ⟨nd, rfl⟩⟩; refine ⟨_, rfl, ?_⟩; obtain ⟨hcz48_0, hcz48_1, hcz48_2, hcz48_3, hcz48_4, hfz48_0, hfz48_1, hfz48_2, hfz48_3, hfz48_4⟩ := blk5 BK116.out))
        refine bodyPost_ret (results_ct rfl _ _ gb116 42 #[.int .i64 t123, .int .i64 t125, .int .i64 2, .int .i64 0, .string t137] (0, 0) _ rfl (by exact obk (blk_put (obk (blk_put (obk (blk_put (obk (blk_put (obk (blk_put (obk (blkf (obk (blkf (obk BK116.out) NB116_127.out)) NB116_127.out)) 0 _ rfl)) 1 _ rfl)) 2 _ rfl)) 3 _ rfl)) 4 _ rfl)) Tryd.underlying42 rfl (by kernel_rfl)) rfl ?_
        exact ⟨by first | rfl | (simp [*, errW_none, errW_some] <;> rfl), by exact bok HB.out⟩
       ·
        replace c45 := Bool.eq_false_iff.mpr c45
        subst c45
        have H1 : (some (0, 0, 0, 0, (⟨#[]⟩ : ByteArray), false)) = some (r1, r2, r3, r4, r5, r6) := by rw [if_neg (show ¬ (false = true) by decide)] at H; exact H
        clear H
        have H := H1
        clear H1
        simp only [Option.some.injEq, Prod.mk.injEq] at H
        obtain ⟨rfl, rfl, rfl, rfl, rfl, rfl⟩ := H
        have hnb49 := NB127_116.out
        have hnc49 := NB116_127.out
        obtain ⟨hcz50_0, hcz50_1, hcz50_2, hcz50_3, hcz50_4, hfz50_0, hfz50_1, hfz50_2, hfz50_3, hfz50_4⟩ := blk5 BK127.out
        go_wp2_with (first | ((with_reducible refine gate_callee (f := 52) rfl ?_); refine goesL_ (some 58) rfl rfl Tryd.func52 (by kernel_rfl) rfl #[.string t121, .string (⟨#[97, 103, 97, 105, 110, 32]⟩ : ByteArray)] rfl (by (try simp only [List.map_toArray, List.map_cons, List.map_nil]); first | done | rfl | (simp only [List.length_drop, List.length_take]; rfl)) ?_; (with_reducible refine (strings_CutPrefix.calls t121 (⟨#[97, 103, 97, 105, 110, 32]⟩ : ByteArray) t128 false _ A22.out).mono ?_); rintro e w' ⟨rfl, ⟨nd, rfl⟩⟩; refine ⟨_, rfl, ?_⟩) | ((with_reducible refine gate_callee (f := 53) rfl ?_); refine goesL_ (some 80) rfl rfl Tryd.func53 (by kernel_rfl) rfl #[.string t121] rfl (by (try simp only [List.map_toArray, List.map_cons, List.map_nil]); first | done | rfl | (simp only [List.length_drop, List.length_take]; rfl)) ?_; (with_reducible refine (def_test.calls t121 t137 false _ A44.out).mono ?_); rintro e w' ⟨rfl, ⟨nd, rfl⟩⟩; refine ⟨_, rfl, ?_⟩; obtain ⟨hcz51_0, hcz51_1, hcz51_2, hcz51_3, hcz51_4, hfz51_0, hfz51_1, hfz51_2, hfz51_3, hfz51_4⟩ := blk5 BK116.out))
        refine bodyPost_ret (results_ct rfl _ _ gb116 42 #[.int .i64 0, .int .i64 0, .int .i64 0, .int .i64 0, .string (⟨#[]⟩ : ByteArray)] (0, 0) _ rfl (by exact obk (blk_put (obk (blk_put (obk (blk_put (obk (blk_put (obk (blk_put (obk (blkf (obk (blkf (obk BK116.out) NB116_127.out)) NB116_127.out)) 0 _ rfl)) 1 _ rfl)) 2 _ rfl)) 3 _ rfl)) 4 _ rfl)) Tryd.underlying42 rfl (by kernel_rfl)) rfl ?_
        exact ⟨by first | rfl | (simp [*, errW_none, errW_some] <;> rfl), by exact bok HB.out⟩
    ·
     replace c17 := Bool.eq_false_iff.mpr c17
     subst c17
     have H1 : (some (t123, t125, 0, 0, (⟨#[]⟩ : ByteArray), true)) = some (r1, r2, r3, r4, r5, r6) := by rw [if_neg (show ¬ (false = true) by decide)] at H; exact H
     clear H
     have H := H1
     clear H1
     simp only [Option.some.injEq, Prod.mk.injEq] at H
     obtain ⟨rfl, rfl, rfl, rfl, rfl, rfl⟩ := H
     have hnb52 := NB127_116.out
     have hnc52 := NB116_127.out
     obtain ⟨hcz53_0, hcz53_1, hcz53_2, hcz53_3, hcz53_4, hfz53_0, hfz53_1, hfz53_2, hfz53_3, hfz53_4⟩ := blk5 BK127.out
     obtain ⟨hcz54_0, hcz54_1, hcz54_2, hcz54_3, hcz54_4, hfz54_0, hfz54_1, hfz54_2, hfz54_3, hfz54_4⟩ := blk5 BK116.out
     go_wp2
     refine bodyPost_ret (results_ct rfl _ _ gb116 42 #[.int .i64 t123, .int .i64 t125, .int .i64 0, .int .i64 0, .string (⟨#[]⟩ : ByteArray)] (0, 0) _ rfl (by exact obk (blk_put (obk (blk_put (obk (blk_put (obk (blk_put (obk (blk_put (obk BK116.out) 0 _ rfl)) 1 _ rfl)) 2 _ rfl)) 3 _ rfl)) 4 _ rfl)) Tryd.underlying42 rfl (by kernel_rfl)) rfl ?_
     exact ⟨by first | rfl | (simp [*, errW_none, errW_some] <;> rfl), by exact bok HB.out⟩

end Go.Proofs.YtpalncojmknlbaaDoor.A
