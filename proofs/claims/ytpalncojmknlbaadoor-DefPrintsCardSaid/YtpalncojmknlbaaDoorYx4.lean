/- What Go functions compute, as plain Lean functions, and that the machine comes to just that: written by wip/tools/printx.py (my run of the printer, with contracts of mine beside it). -/
import Derived.Test.YtpalncojmknlbaaDoorOn
import Derived.Test.YtpalncojmknlbaaDoorDefNode
import Derived.Test.YtpalncojmknlbaaDoorDefWrite
import Derived.Test.YtpalncojmknlbaaDoorAx2
import Derived.Test.YtpalncojmknlbaaDoorYx0
namespace Go.Proofs.YtpalncojmknlbaaDoor.Y
open Go.Proofs.YtpalncojmknlbaaDoor.Ext Go.Proofs.YtpalncojmknlbaaDoor.A Go.RowKit Go.Proofs.YtpalncojmknlbaaDoorW.PrintWords Go.Proofs.YtpalncojmknlbaaDoorW.PrintLast Go.Proofs.YtpalncojmknlbaaDoorW.PrintMore
attribute [local go_sem] max2_int min2_int max_two min_two max_three min_three max_four min_four   -- for this text's walks alone
set_option linter.unusedVariables false
set_option linter.unusedSimpArgs false

/-! ### def_put: function 21 -/
def def_put.j0 : Nat → Bool → ByteArray → List (S40) → List (S42) → Int → Int → Int → Int → ByteArray → Option (ByteArray × (List (S40)) × (List (S42)) × Int)
 | 0, _, _, _, _, _, _, _, _, _ => none
 | k + 1, x26, x105000, x105001, x105002, x127000, x127001, x127002, x127003, x127004 => if x26 = true then (some (x105000, x105001, x105002, 2)) else (if (x105001.length : Int) ≥ 60 then (some (x105000, x105001, x105002, 15)) else (if (x105002.length : Int) > 0 then (some (x105000, x105001, x105002, 2)) else (if x105001.length < 2932031007402 then (some (x105000, (x105001 ++ [(⟨x127000, x127001, x127002, x127003, x127004⟩ : S40)]), x105002, 0)) else (none))))
def def_put.f (k : Nat) (a0_0 : ByteArray) (l0_1 : List (S40)) (l0_2 : List (S42)) (a1 : Int) (a2 : ByteArray) : Option (ByteArray × (List (S40)) × (List (S42)) × Int) := (strings_Cut.f a2 (⟨#[32]⟩ : ByteArray)).bind fun bt106 => (if a1 = 0 then (if bt106.1.toList = ([112, 114, 111, 99, 101, 115, 115] : List UInt8) then ((words_Name.f k bt106.2.1).bind fun t109 => (if t109 = true then (some (bt106.2.1, l0_1, l0_2, 0)) else (some (bt106.2.1, l0_1, l0_2, 2)))) else (some (bt106.2.1, l0_1, l0_2, 2))) else (if bt106.1.toList = ([102, 108, 111, 119] : List UInt8) then ((def_flow.f k bt106.2.1).bind fun bt110 => (if bt110.2.2.2.2.2 = true then (if (l0_2.length : Int) ≥ 90 then (some (a0_0, l0_1, l0_2, 15)) else (if l0_2.length < 2932031007402 then (some (a0_0, l0_1, (l0_2 ++ [(⟨bt110.1, bt110.2.1, bt110.2.2.1, bt110.2.2.2.1, bt110.2.2.2.2.1⟩ : S42)]), 0)) else (none))) else (some (a0_0, l0_1, l0_2, 2)))) else ((def_node.f k a2).bind fun bt120 => (if bt120.2.2.2.2.2 = true then (def_put.j0 k (bt120.1 == 0) a0_0 l0_1 l0_2 bt120.1 bt120.2.1 bt120.2.2.1 bt120.2.2.2.1 bt120.2.2.2.2.1) else (def_put.j0 k true a0_0 l0_1 l0_2 bt120.1 bt120.2.1 bt120.2.2.1 bt120.2.2.2.1 bt120.2.2.2.2.1)))))
theorem def_put.mono_l : ∀ k, (∀ y0 y1 y2 y3 y4 y5 y6 y7 y8, LeO (def_put.j0 k y0 y1 y2 y3 y4 y5 y6 y7 y8) (def_put.j0 (k + 1) y0 y1 y2 y3 y4 y5 y6 y7 y8))
 | 0 => fun _ _ _ _ _ _ _ _ _ r h => by simp [def_put.j0] at h
 | k + 1 => by
  have ih0 := def_put.mono_l k
  ·
   intro y0 y1 y2 y3 y4 y5 y6 y7 y8
   unfold def_put.j0
   repeat' first
   | (with_reducible exact ih0 _ _ _ _ _ _ _ _ _)
   | (with_reducible exact def_flow.mono _ _)
   | (with_reducible exact def_node.mono _ _)
   | (with_reducible exact words_Name.mono _ _)
   | (with_reducible exact LeO.refl _)
   | (with_reducible exact LeO.none _)
   | (with_reducible refine LeO.ite ?_ ?_)
   | (with_reducible refine LeO.bind ?_ (fun _ => ?_))
   | exact ih0 _ _ _ _ _ _ _ _ _
   | exact def_flow.mono _ _
   | exact def_node.mono _ _
   | exact words_Name.mono _ _
   | exact LeO.none _
   | refine LeO.ite ?_ ?_
   | refine LeO.bind ?_ (fun _ => ?_)
theorem def_put.mono : ∀ a0 a1 a2 a3 a4 k, LeO (def_put.f k a0 a1 a2 a3 a4) (def_put.f (k + 1) a0 a1 a2 a3 a4) := by
 intro a0 a1 a2 a3 a4 k
 have ih0 := def_put.mono_l k
 unfold def_put.f
 repeat' first
   | (with_reducible exact ih0 _ _ _ _ _ _ _ _ _)
   | (with_reducible exact def_flow.mono _ _)
   | (with_reducible exact def_node.mono _ _)
   | (with_reducible exact words_Name.mono _ _)
   | (with_reducible exact LeO.refl _)
   | (with_reducible exact LeO.none _)
   | (with_reducible refine LeO.ite ?_ ?_)
   | (with_reducible refine LeO.bind ?_ (fun _ => ?_))
   | exact ih0 _ _ _ _ _ _ _ _ _
   | exact def_flow.mono _ _
   | exact def_node.mono _ _
   | exact words_Name.mono _ _
   | exact LeO.none _
   | refine LeO.ite ?_ ?_
   | refine LeO.bind ?_ (fun _ => ?_)
set_option maxHeartbeats 8000000 in
set_option maxRecDepth 100000 in
theorem def_put.calls (k : Nat) (a0_0 : ByteArray) (P0_1_ : Nat → Prop) (u9000_ : Value) (l0_1 : List (S40)) (P0_2_ : Nat → Prop) (u9001_ : Value) (l0_2 : List (S42)) (a1 : Int) (a2 : ByteArray) (r1 : ByteArray) (r2 : List (S40)) (r3 : List (S42)) (r4 : Int) (w0 w : World) (hB : Below w0.heap.size w0 w) (ho0_1 : Kd.R k40 40 w w0.heap.size P0_1_ u9000_ l0_1) (ho0_2 : Kd.R k42 42 w w0.heap.size P0_2_ u9001_ l0_2) (h : def_put.f k a0_0 l0_1 l0_2 a1 a2 = some (r1, r2, r3, r4)) :
  Calls Tryd.prog 21 #[.agg #[.string a0_0, u9000_, u9001_], .int .i64 a1, .string a2] w fun e w' => ∃ v1_ v2_ : Value, e = .returned (.tuple #[.agg #[.string r1, v1_, v2_], .int .i64 r4]) ∧ Kd.R k40 40 w' w0.heap.size (fun k_ => ((P0_1_ k_ ∨ P0_2_ k_) ∨ w.heap.size ≤ k_)) v1_ r2 ∧ Kd.R k42 42 w' w0.heap.size (fun k_ => ((P0_1_ k_ ∨ P0_2_ k_) ∨ w.heap.size ≤ k_)) v2_ r3 ∧ Below w0.heap.size w0 w' ∧ Kept w w' (fun k_ => P0_1_ k_ ∨ P0_2_ k_) := by
 have hu25 := Tryd.underlying25
 have hu42 := Tryd.underlying42
 have hu40 := Tryd.underlying40
 have HO0_1 := mk0 (show Kd.R k40 40 w w0.heap.size (fun k_ => ((P0_1_ k_ ∨ P0_2_ k_) ∨ w.heap.size ≤ k_)) u9000_ l0_1 from Kd.R_mono ho0_1 (fun k_ hk => (.inl (.inl hk))))
 have HO0_2 := mk0 (show Kd.R k42 42 w w0.heap.size (fun k_ => ((P0_1_ k_ ∨ P0_2_ k_) ∨ w.heap.size ≤ k_)) u9001_ l0_2 from Kd.R_mono ho0_2 (fun k_ hk => (.inl (.inr hk))))
 have HK := mk0 (Kept.refl w (fun k_ => P0_1_ k_ ∨ P0_2_ k_))
 have HW0 := mk0 hB.size
 have HB := mk0 hB
 clear hB
 have H : ((strings_Cut.f a2 (⟨#[32]⟩ : ByteArray)).bind fun bt106 => (if a1 = 0 then (if bt106.1.toList = ([112, 114, 111, 99, 101, 115, 115] : List UInt8) then ((words_Name.f k bt106.2.1).bind fun t109 => (if t109 = true then (some (bt106.2.1, l0_1, l0_2, 0)) else (some (bt106.2.1, l0_1, l0_2, 2)))) else (some (bt106.2.1, l0_1, l0_2, 2))) else (if bt106.1.toList = ([102, 108, 111, 119] : List UInt8) then ((def_flow.f k bt106.2.1).bind fun bt110 => (if bt110.2.2.2.2.2 = true then (if (l0_2.length : Int) ≥ 90 then (some (a0_0, l0_1, l0_2, 15)) else (if l0_2.length < 2932031007402 then (some (a0_0, l0_1, (l0_2 ++ [(⟨bt110.1, bt110.2.1, bt110.2.2.1, bt110.2.2.2.1, bt110.2.2.2.2.1⟩ : S42)]), 0)) else (none))) else (some (a0_0, l0_1, l0_2, 2)))) else ((def_node.f k a2).bind fun bt120 => (if bt120.2.2.2.2.2 = true then (def_put.j0 k (bt120.1 == 0) a0_0 l0_1 l0_2 bt120.1 bt120.2.1 bt120.2.2.1 bt120.2.2.2.1 bt120.2.2.2.2.1) else (def_put.j0 k true a0_0 l0_1 l0_2 bt120.1 bt120.2.1 bt120.2.2.1 bt120.2.2.2.1 bt120.2.2.2.2.1)))))) = some (r1, r2, r3, r4) := h
 clear h
 replace H := Option.bind_eq_some_iff.mp H
 obtain ⟨⟨t106, t107, t108⟩, A40, H⟩ := H
 replace H : (if a1 = 0 then (if t106.toList = ([112, 114, 111, 99, 101, 115, 115] : List UInt8) then ((words_Name.f k t107).bind fun t109 => (if t109 = true then (some (t107, l0_1, l0_2, 0)) else (some (t107, l0_1, l0_2, 2)))) else (some (t107, l0_1, l0_2, 2))) else (if t106.toList = ([102, 108, 111, 119] : List UInt8) then ((def_flow.f k t107).bind fun bt110 => (if bt110.2.2.2.2.2 = true then (if (l0_2.length : Int) ≥ 90 then (some (a0_0, l0_1, l0_2, 15)) else (if l0_2.length < 2932031007402 then (some (a0_0, l0_1, (l0_2 ++ [(⟨bt110.1, bt110.2.1, bt110.2.2.1, bt110.2.2.2.1, bt110.2.2.2.2.1⟩ : S42)]), 0)) else (none))) else (some (a0_0, l0_1, l0_2, 2)))) else ((def_node.f k a2).bind fun bt120 => (if bt120.2.2.2.2.2 = true then (def_put.j0 k (bt120.1 == 0) a0_0 l0_1 l0_2 bt120.1 bt120.2.1 bt120.2.2.1 bt120.2.2.2.1 bt120.2.2.2.2.1) else (def_put.j0 k true a0_0 l0_1 l0_2 bt120.1 bt120.2.1 bt120.2.2.1 bt120.2.2.2.1 bt120.2.2.2.2.1))))) = some (r1, r2, r3, r4) := H
 have A4 := mk0 A40
 clear A40
 by_cases c5 : a1 = 0
 ·
  rw [if_pos c5] at H
  have c5b0 : (a1 == 0) = true := beq_iff_eq.mpr c5
  have c5b1 : (a1 != 0) = false := bne_eq_false_iff_eq.mpr c5
  clear c5
  by_cases c6 : t106.toList = ([112, 114, 111, 99, 101, 115, 115] : List UInt8)
  ·
   rw [if_pos c6] at H
   have c6b0 : (t106.toList == ([112, 114, 111, 99, 101, 115, 115] : List UInt8)) = true := beq_iff_eq.mpr c6
   have c6b1 : (t106.toList != ([112, 114, 111, 99, 101, 115, 115] : List UInt8)) = false := bne_eq_false_iff_eq.mpr c6
   clear c6
   replace H := Option.bind_eq_some_iff.mp H
   obtain ⟨t109, A70, H⟩ := H
   replace H : (if t109 = true then (some (t107, l0_1, l0_2, 0)) else (some (t107, l0_1, l0_2, 2))) = some (r1, r2, r3, r4) := H
   have A7 := mk0 A70
   clear A70
   by_cases c8 : t109 = true
   ·
    subst c8
    have H1 : (some (t107, l0_1, l0_2, 0)) = some (r1, r2, r3, r4) := by rw [if_pos rfl] at H; exact H
    clear H
    have H := H1
    clear H1
    simp only [Option.some.injEq, Prod.mk.injEq] at H
    obtain ⟨rfl, rfl, rfl, rfl⟩ := H
    obtain ⟨Ao9, co9, eo9⟩ := Kd.R_slice HO0_1.out
    subst eo9
    obtain ⟨Ao10, co10, eo10⟩ := Kd.R_slice HO0_2.out
    subst eo10
    go_enter Tryd.func21, Tryd.ntmps21
    go_wp2_with (first | ((with_reducible refine gate_dst (N := 3) rfl ?_); refine box_event ?hg (N := 3) ?hd (cs := #[.string a0_0, .slice Ao9 l0_1.length co9, .slice Ao10 l0_2.length co10]) (t := 25) ?hr ?_; (case hd => rfl); (case hg => rfl); (case hr => first | (go_simp; done) | (go_simp; rfl)); intro gb104 hg w11 hbox hb; have n0_ := mk0 (Kd.R_below (by exact rok HO0_1.out) hb); have n1_ := mk0 (Kd.R_below (by exact rok HO0_2.out) hb); have n2_ := mk0 (Kept.below (S := (fun k_ => P0_1_ k_ ∨ P0_2_ k_)) (by repeat (first | (with_reducible first | exact HK.out | apply Kept.alloc | apply Kept.drewN | apply Kept.drew) | exact HK.out)) hb); have n3_ := mk0 (bst HB.out hb); have n4_ := mk0 (hbox); have n5_ := mk0 ((by rw [hg]; exact (by first | exact HK.out.1 | exact (show Kept w _ (fun k_ => P0_1_ k_ ∨ P0_2_ k_) from by repeat (first | (with_reducible first | exact HK.out | apply Kept.alloc | apply Kept.drewN | apply Kept.drew) | exact HK.out)).1) : w.heap.size ≤ gb104)); have n6_ := mk0 ((by rw [hg]; exact (below_size (by exact bok HB.out)) : w0.heap.size ≤ gb104)); clear HO0_1; clear HO0_2; clear HK; clear HB; have HO0_1 := n0_; have HO0_2 := n1_; have HK := n2_; have HB := n3_; have BK104 := n4_; have GW104 := n5_; have GE104 := n6_; clear n0_ n1_ n2_ n3_ n4_ n5_ n6_; clear hb hbox hg) | ((with_reducible refine gate_dst (N := 6) rfl ?_); refine box_event ?hg (N := 6) ?hd (cs := #[.string (⟨#[]⟩ : ByteArray), .slice none 0 0, .slice none 0 0]) (t := 25) ?hr ?_; (case hd => rfl); (case hg => rfl); (case hr => first | (go_simp; done) | (go_simp; rfl)); intro gb105 hg w12 hbox hb; have n0_ := mk0 (Kd.R_below (by exact rok HO0_1.out) hb); have n1_ := mk0 (Kd.R_below (by exact rok HO0_2.out) hb); have n2_ := mk0 (blk_below (obk BK104.out) hb); have n3_ := mk0 (Kept.below (S := (fun k_ => P0_1_ k_ ∨ P0_2_ k_)) (by repeat (first | (with_reducible first | exact HK.out | apply Kept.alloc | apply Kept.drewN | apply Kept.drew | refine Kept.setCell ?_ (.inr GW104.out) _) | exact HK.out)) hb); have n4_ := mk0 (bst HB.out hb); have n5_ := mk0 (hbox); have n6_ := mk0 ((by rw [hg]; exact (by first | exact HK.out.1 | exact (show Kept w _ (fun k_ => P0_1_ k_ ∨ P0_2_ k_) from by repeat (first | (with_reducible first | exact HK.out | apply Kept.alloc | apply Kept.drewN | apply Kept.drew | refine Kept.setCell ?_ (.inr GW104.out) _) | exact HK.out)).1) : w.heap.size ≤ gb105)); have n7_ := mk0 ((by rw [hg]; exact (below_size (by exact bok HB.out)) : w0.heap.size ≤ gb105)); have n8_ := mk0 (nlt hg BK104.out); have n9_ := mk0 (ngt hg BK104.out); clear HO0_1; clear HO0_2; clear BK104; clear HK; clear HB; have HO0_1 := n0_; have HO0_2 := n1_; have BK104 := n2_; have HK := n3_; have HB := n4_; have BK105 := n5_; have GW105 := n6_; have GE105 := n7_; have NB104_105 := n8_; have NB105_104 := n9_; clear n0_ n1_ n2_ n3_ n4_ n5_ n6_ n7_ n8_ n9_; clear hb hbox hg) | ((with_reducible refine gate_callee (f := 38) rfl ?_); refine goesL_ (some 17) rfl rfl Tryd.func38 (by kernel_rfl) rfl #[.string a2, .string (⟨#[32]⟩ : ByteArray)] rfl (by (try simp only [List.map_toArray, List.map_cons, List.map_nil]); first | done | rfl | (simp only [List.length_drop, List.length_take]; rfl)) ?_; (with_reducible refine (strings_Cut.calls a2 (⟨#[32]⟩ : ByteArray) t106 t107 t108 _ A4.out).mono ?_); rintro e w' ⟨rfl, ⟨nd, rfl⟩⟩; refine ⟨_, rfl, ?_⟩; (try (rw [drewN_self w12]; generalize hq_ : World.drewN w12 _ = w12; have n0_ : Aside0 (Kd.R k40 40 w12 w0.heap.size (fun k_ => ((P0_1_ k_ ∨ P0_2_ k_) ∨ w.heap.size ≤ k_)) (.slice Ao9 l0_1.length co9) l0_1) := ⟨by rw [← hq_]; exact (by exact rok HO0_1.out)⟩; have n1_ : Aside0 (Kd.R k42 42 w12 w0.heap.size (fun k_ => ((P0_1_ k_ ∨ P0_2_ k_) ∨ w.heap.size ≤ k_)) (.slice Ao10 l0_2.length co10) l0_2) := ⟨by rw [← hq_]; exact (by exact rok HO0_2.out)⟩; have n2_ : Aside0 (w12.heap[gb104]? = some (.cells #[.string a0_0, .slice Ao9 l0_1.length co9, .slice Ao10 l0_2.length co10] 25 (0, 0))) := ⟨by rw [← hq_]; exact (by exact obk BK104.out)⟩; have n3_ : Aside0 (w12.heap[gb105]? = some (.cells #[.string (⟨#[]⟩ : ByteArray), .slice none 0 0, .slice none 0 0] 25 (0, 0))) := ⟨by rw [← hq_]; exact (by exact obk BK105.out)⟩; have n4_ : Aside0 (Kept w w12 (fun k_ => P0_1_ k_ ∨ P0_2_ k_)) := ⟨by rw [← hq_]; exact (by repeat (first | (with_reducible first | exact HK.out | apply Kept.alloc | apply Kept.drewN | apply Kept.drew | refine Kept.setCell ?_ (.inr GW104.out) _ | refine Kept.setCell ?_ (.inr GW105.out) _) | exact HK.out))⟩; have n5_ : Aside0 (Below w0.heap.size w0 w12) := ⟨by rw [← hq_]; exact (by exact bok HB.out)⟩; clear HO0_1 HO0_2 BK104 BK105 HK HB hq_; have HO0_1 := n0_; have HO0_2 := n1_; have BK104 := n2_; have BK105 := n3_; have HK := n4_; have HB := n5_; clear n0_ n1_ n2_ n3_ n4_ n5_)); have hnb13 := NB104_105.out; have hnc13 := NB105_104.out; obtain ⟨hcz14_0, hcz14_1, hcz14_2, hfz14_0, hfz14_1, hfz14_2⟩ := blk3 BK104.out) | (go_at_call 39; (with_reducible refine (words_Name.calls k t107 true _ A7.out).mono ?_); rintro e w' ⟨rfl, ⟨nd, rfl⟩⟩; obtain ⟨hcz15_0, hcz15_1, hcz15_2, hfz15_0, hfz15_1, hfz15_2⟩ := blk3 BK105.out))
    refine bodyPost_ret (results_ct rfl _ _ gb105 25 #[.string t107, .slice Ao9 l0_1.length co9, .slice Ao10 l0_2.length co10] (0, 0) _ rfl (by exact obk (blk_put (obk (blk_put (obk (blk_put (obk (blkf (obk BK105.out) NB105_104.out)) 0 _ rfl)) 1 _ rfl)) 2 _ rfl)) Tryd.underlying25 rfl (by kernel_rfl)) rfl ?_
    exact ⟨_, _, by first | rfl | (simp [*, errW_none, errW_some] <;> rfl), by (with_reducible repeat (first | apply Kd.R_alloc | apply Kd.R_drewN | apply Kd.R_drew)); exact Kd.R_mono (Kd.R_far (p := ⟨gb105, 2, none⟩) (Kd.R_far (p := ⟨gb105, 1, none⟩) (Kd.R_far (p := ⟨gb105, 0, none⟩) (Kd.R_far (p := ⟨gb104, 0, none⟩) (Kd.R_types (Kd.R_types HO0_1.out BK104.out (by decide)) BK105.out (by decide)) (fun _ hk => hk.1.2) (.string t107)) (fun _ hk => hk.2) (.string t107)) (fun _ hk => hk.2) (.slice Ao9 l0_1.length co9)) (fun _ hk => hk.2) (.slice Ao10 l0_2.length co10)) (fun _ hk => hk.1.1), by (with_reducible repeat (first | apply Kd.R_alloc | apply Kd.R_drewN | apply Kd.R_drew)); exact Kd.R_mono (Kd.R_far (p := ⟨gb105, 2, none⟩) (Kd.R_far (p := ⟨gb105, 1, none⟩) (Kd.R_far (p := ⟨gb105, 0, none⟩) (Kd.R_far (p := ⟨gb104, 0, none⟩) (Kd.R_types (Kd.R_types HO0_2.out BK104.out (by decide)) BK105.out (by decide)) (fun _ hk => hk.1.2) (.string t107)) (fun _ hk => hk.2) (.string t107)) (fun _ hk => hk.2) (.slice Ao9 l0_1.length co9)) (fun _ hk => hk.2) (.slice Ao10 l0_2.length co10)) (fun _ hk => hk.1.1), by exact bok HB.out, by repeat (first | (with_reducible first | exact HK.out | apply Kept.alloc | apply Kept.drewN | apply Kept.drew | refine Kept.setCell ?_ (.inr GW104.out) _ | refine Kept.setCell ?_ (.inr GW105.out) _) | exact HK.out)⟩
   ·
    replace c8 := Bool.eq_false_iff.mpr c8
    subst c8
    have H1 : (some (t107, l0_1, l0_2, 2)) = some (r1, r2, r3, r4) := by rw [if_neg (show ¬ (false = true) by decide)] at H; exact H
    clear H
    have H := H1
    clear H1
    simp only [Option.some.injEq, Prod.mk.injEq] at H
    obtain ⟨rfl, rfl, rfl, rfl⟩ := H
    obtain ⟨Ao16, co16, eo16⟩ := Kd.R_slice HO0_1.out
    subst eo16
    obtain ⟨Ao17, co17, eo17⟩ := Kd.R_slice HO0_2.out
    subst eo17
    go_enter Tryd.func21, Tryd.ntmps21
    go_wp2_with (first | ((with_reducible refine gate_dst (N := 3) rfl ?_); refine box_event ?hg (N := 3) ?hd (cs := #[.string a0_0, .slice Ao16 l0_1.length co16, .slice Ao17 l0_2.length co17]) (t := 25) ?hr ?_; (case hd => rfl); (case hg => rfl); (case hr => first | (go_simp; done) | (go_simp; rfl)); intro gb104 hg w18 hbox hb; have n0_ := mk0 (Kd.R_below (by exact rok HO0_1.out) hb); have n1_ := mk0 (Kd.R_below (by exact rok HO0_2.out) hb); have n2_ := mk0 (Kept.below (S := (fun k_ => P0_1_ k_ ∨ P0_2_ k_)) (by repeat (first | (with_reducible first | exact HK.out | apply Kept.alloc | apply Kept.drewN | apply Kept.drew) | exact HK.out)) hb); have n3_ := mk0 (bst HB.out hb); have n4_ := mk0 (hbox); have n5_ := mk0 ((by rw [hg]; exact (by first | exact HK.out.1 | exact (show Kept w _ (fun k_ => P0_1_ k_ ∨ P0_2_ k_) from by repeat (first | (with_reducible first | exact HK.out | apply Kept.alloc | apply Kept.drewN | apply Kept.drew) | exact HK.out)).1) : w.heap.size ≤ gb104)); have n6_ := mk0 ((by rw [hg]; exact (below_size (by exact bok HB.out)) : w0.heap.size ≤ gb104)); clear HO0_1; clear HO0_2; clear HK; clear HB; have HO0_1 := n0_; have HO0_2 := n1_; have HK := n2_; have HB := n3_; have BK104 := n4_; have GW104 := n5_; have GE104 := n6_; clear n0_ n1_ n2_ n3_ n4_ n5_ n6_; clear hb hbox hg) | ((with_reducible refine gate_dst (N := 6) rfl ?_); refine box_event ?hg (N := 6) ?hd (cs := #[.string (⟨#[]⟩ : ByteArray), .slice none 0 0, .slice none 0 0]) (t := 25) ?hr ?_; (case hd => rfl); (case hg => rfl); (case hr => first | (go_simp; done) | (go_simp; rfl)); intro gb105 hg w19 hbox hb; have n0_ := mk0 (Kd.R_below (by exact rok HO0_1.out) hb); have n1_ := mk0 (Kd.R_below (by exact rok HO0_2.out) hb); have n2_ := mk0 (blk_below (obk BK104.out) hb); have n3_ := mk0 (Kept.below (S := (fun k_ => P0_1_ k_ ∨ P0_2_ k_)) (by repeat (first | (with_reducible first | exact HK.out | apply Kept.alloc | apply Kept.drewN | apply Kept.drew | refine Kept.setCell ?_ (.inr GW104.out) _) | exact HK.out)) hb); have n4_ := mk0 (bst HB.out hb); have n5_ := mk0 (hbox); have n6_ := mk0 ((by rw [hg]; exact (by first | exact HK.out.1 | exact (show Kept w _ (fun k_ => P0_1_ k_ ∨ P0_2_ k_) from by repeat (first | (with_reducible first | exact HK.out | apply Kept.alloc | apply Kept.drewN | apply Kept.drew | refine Kept.setCell ?_ (.inr GW104.out) _) | exact HK.out)).1) : w.heap.size ≤ gb105)); have n7_ := mk0 ((by rw [hg]; exact (below_size (by exact bok HB.out)) : w0.heap.size ≤ gb105)); have n8_ := mk0 (nlt hg BK104.out); have n9_ := mk0 (ngt hg BK104.out); clear HO0_1; clear HO0_2; clear BK104; clear HK; clear HB; have HO0_1 := n0_; have HO0_2 := n1_; have BK104 := n2_; have HK := n3_; have HB := n4_; have BK105 := n5_; have GW105 := n6_; have GE105 := n7_; have NB104_105 := n8_; have NB105_104 := n9_; clear n0_ n1_ n2_ n3_ n4_ n5_ n6_ n7_ n8_ n9_; clear hb hbox hg) | ((with_reducible refine gate_callee (f := 38) rfl ?_); refine goesL_ (some 17) rfl rfl Tryd.func38 (by kernel_rfl) rfl #[.string a2, .string (⟨#[32]⟩ : ByteArray)] rfl (by (try simp only [List.map_toArray, List.map_cons, List.map_nil]); first | done | rfl | (simp only [List.length_drop, List.length_take]; rfl)) ?_; (with_reducible refine (strings_Cut.calls a2 (⟨#[32]⟩ : ByteArray) t106 t107 t108 _ A4.out).mono ?_); rintro e w' ⟨rfl, ⟨nd, rfl⟩⟩; refine ⟨_, rfl, ?_⟩; (try (rw [drewN_self w19]; generalize hq_ : World.drewN w19 _ = w19; have n0_ : Aside0 (Kd.R k40 40 w19 w0.heap.size (fun k_ => ((P0_1_ k_ ∨ P0_2_ k_) ∨ w.heap.size ≤ k_)) (.slice Ao16 l0_1.length co16) l0_1) := ⟨by rw [← hq_]; exact (by exact rok HO0_1.out)⟩; have n1_ : Aside0 (Kd.R k42 42 w19 w0.heap.size (fun k_ => ((P0_1_ k_ ∨ P0_2_ k_) ∨ w.heap.size ≤ k_)) (.slice Ao17 l0_2.length co17) l0_2) := ⟨by rw [← hq_]; exact (by exact rok HO0_2.out)⟩; have n2_ : Aside0 (w19.heap[gb104]? = some (.cells #[.string a0_0, .slice Ao16 l0_1.length co16, .slice Ao17 l0_2.length co17] 25 (0, 0))) := ⟨by rw [← hq_]; exact (by exact obk BK104.out)⟩; have n3_ : Aside0 (w19.heap[gb105]? = some (.cells #[.string (⟨#[]⟩ : ByteArray), .slice none 0 0, .slice none 0 0] 25 (0, 0))) := ⟨by rw [← hq_]; exact (by exact obk BK105.out)⟩; have n4_ : Aside0 (Kept w w19 (fun k_ => P0_1_ k_ ∨ P0_2_ k_)) := ⟨by rw [← hq_]; exact (by repeat (first | (with_reducible first | exact HK.out | apply Kept.alloc | apply Kept.drewN | apply Kept.drew | refine Kept.setCell ?_ (.inr GW104.out) _ | refine Kept.setCell ?_ (.inr GW105.out) _) | exact HK.out))⟩; have n5_ : Aside0 (Below w0.heap.size w0 w19) := ⟨by rw [← hq_]; exact (by exact bok HB.out)⟩; clear HO0_1 HO0_2 BK104 BK105 HK HB hq_; have HO0_1 := n0_; have HO0_2 := n1_; have BK104 := n2_; have BK105 := n3_; have HK := n4_; have HB := n5_; clear n0_ n1_ n2_ n3_ n4_ n5_)); have hnb20 := NB104_105.out; have hnc20 := NB105_104.out; obtain ⟨hcz21_0, hcz21_1, hcz21_2, hfz21_0, hfz21_1, hfz21_2⟩ := blk3 BK104.out) | (go_at_call 39; (with_reducible refine (words_Name.calls k t107 false _ A7.out).mono ?_); rintro e w' ⟨rfl, ⟨nd, rfl⟩⟩; obtain ⟨hcz22_0, hcz22_1, hcz22_2, hfz22_0, hfz22_1, hfz22_2⟩ := blk3 BK105.out))
    refine bodyPost_ret (results_ct rfl _ _ gb105 25 #[.string t107, .slice Ao16 l0_1.length co16, .slice Ao17 l0_2.length co17] (0, 0) _ rfl (by exact obk (blk_put (obk (blk_put (obk (blk_put (obk (blkf (obk BK105.out) NB105_104.out)) 0 _ rfl)) 1 _ rfl)) 2 _ rfl)) Tryd.underlying25 rfl (by kernel_rfl)) rfl ?_
    exact ⟨_, _, by first | rfl | (simp [*, errW_none, errW_some] <;> rfl), by (with_reducible repeat (first | apply Kd.R_alloc | apply Kd.R_drewN | apply Kd.R_drew)); exact Kd.R_mono (Kd.R_far (p := ⟨gb105, 2, none⟩) (Kd.R_far (p := ⟨gb105, 1, none⟩) (Kd.R_far (p := ⟨gb105, 0, none⟩) (Kd.R_far (p := ⟨gb104, 0, none⟩) (Kd.R_types (Kd.R_types HO0_1.out BK104.out (by decide)) BK105.out (by decide)) (fun _ hk => hk.1.2) (.string t107)) (fun _ hk => hk.2) (.string t107)) (fun _ hk => hk.2) (.slice Ao16 l0_1.length co16)) (fun _ hk => hk.2) (.slice Ao17 l0_2.length co17)) (fun _ hk => hk.1.1), by (with_reducible repeat (first | apply Kd.R_alloc | apply Kd.R_drewN | apply Kd.R_drew)); exact Kd.R_mono (Kd.R_far (p := ⟨gb105, 2, none⟩) (Kd.R_far (p := ⟨gb105, 1, none⟩) (Kd.R_far (p := ⟨gb105, 0, none⟩) (Kd.R_far (p := ⟨gb104, 0, none⟩) (Kd.R_types (Kd.R_types HO0_2.out BK104.out (by decide)) BK105.out (by decide)) (fun _ hk => hk.1.2) (.string t107)) (fun _ hk => hk.2) (.string t107)) (fun _ hk => hk.2) (.slice Ao16 l0_1.length co16)) (fun _ hk => hk.2) (.slice Ao17 l0_2.length co17)) (fun _ hk => hk.1.1), by exact bok HB.out, by repeat (first | (with_reducible first | exact HK.out | apply Kept.alloc | apply Kept.drewN | apply Kept.drew | refine Kept.setCell ?_ (.inr GW104.out) _ | refine Kept.setCell ?_ (.inr GW105.out) _) | exact HK.out)⟩
  ·
   rw [if_neg c6] at H
   have c6b0 : (t106.toList == ([112, 114, 111, 99, 101, 115, 115] : List UInt8)) = false := beq_eq_false_iff_ne.mpr c6
   have c6b1 : (t106.toList != ([112, 114, 111, 99, 101, 115, 115] : List UInt8)) = true := bne_iff_ne.mpr c6
   simp only [Option.some.injEq, Prod.mk.injEq] at H
   obtain ⟨rfl, rfl, rfl, rfl⟩ := H
   obtain ⟨Ao23, co23, eo23⟩ := Kd.R_slice HO0_1.out
   subst eo23
   obtain ⟨Ao24, co24, eo24⟩ := Kd.R_slice HO0_2.out
   subst eo24
   go_enter Tryd.func21, Tryd.ntmps21
   go_wp2_with (first | ((with_reducible refine gate_dst (N := 3) rfl ?_); refine box_event ?hg (N := 3) ?hd (cs := #[.string a0_0, .slice Ao23 l0_1.length co23, .slice Ao24 l0_2.length co24]) (t := 25) ?hr ?_; (case hd => rfl); (case hg => rfl); (case hr => first | (go_simp; done) | (go_simp; rfl)); intro gb104 hg w25 hbox hb; have n0_ := mk0 (Kd.R_below (by exact rok HO0_1.out) hb); have n1_ := mk0 (Kd.R_below (by exact rok HO0_2.out) hb); have n2_ := mk0 (Kept.below (S := (fun k_ => P0_1_ k_ ∨ P0_2_ k_)) (by repeat (first | (with_reducible first | exact HK.out | apply Kept.alloc | apply Kept.drewN | apply Kept.drew) | exact HK.out)) hb); have n3_ := mk0 (bst HB.out hb); have n4_ := mk0 (hbox); have n5_ := mk0 ((by rw [hg]; exact (by first | exact HK.out.1 | exact (show Kept w _ (fun k_ => P0_1_ k_ ∨ P0_2_ k_) from by repeat (first | (with_reducible first | exact HK.out | apply Kept.alloc | apply Kept.drewN | apply Kept.drew) | exact HK.out)).1) : w.heap.size ≤ gb104)); have n6_ := mk0 ((by rw [hg]; exact (below_size (by exact bok HB.out)) : w0.heap.size ≤ gb104)); clear HO0_1; clear HO0_2; clear HK; clear HB; have HO0_1 := n0_; have HO0_2 := n1_; have HK := n2_; have HB := n3_; have BK104 := n4_; have GW104 := n5_; have GE104 := n6_; clear n0_ n1_ n2_ n3_ n4_ n5_ n6_; clear hb hbox hg) | ((with_reducible refine gate_dst (N := 6) rfl ?_); refine box_event ?hg (N := 6) ?hd (cs := #[.string (⟨#[]⟩ : ByteArray), .slice none 0 0, .slice none 0 0]) (t := 25) ?hr ?_; (case hd => rfl); (case hg => rfl); (case hr => first | (go_simp; done) | (go_simp; rfl)); intro gb105 hg w26 hbox hb; have n0_ := mk0 (Kd.R_below (by exact rok HO0_1.out) hb); have n1_ := mk0 (Kd.R_below (by exact rok HO0_2.out) hb); have n2_ := mk0 (blk_below (obk BK104.out) hb); have n3_ := mk0 (Kept.below (S := (fun k_ => P0_1_ k_ ∨ P0_2_ k_)) (by repeat (first | (with_reducible first | exact HK.out | apply Kept.alloc | apply Kept.drewN | apply Kept.drew | refine Kept.setCell ?_ (.inr GW104.out) _) | exact HK.out)) hb); have n4_ := mk0 (bst HB.out hb); have n5_ := mk0 (hbox); have n6_ := mk0 ((by rw [hg]; exact (by first | exact HK.out.1 | exact (show Kept w _ (fun k_ => P0_1_ k_ ∨ P0_2_ k_) from by repeat (first | (with_reducible first | exact HK.out | apply Kept.alloc | apply Kept.drewN | apply Kept.drew | refine Kept.setCell ?_ (.inr GW104.out) _) | exact HK.out)).1) : w.heap.size ≤ gb105)); have n7_ := mk0 ((by rw [hg]; exact (below_size (by exact bok HB.out)) : w0.heap.size ≤ gb105)); have n8_ := mk0 (nlt hg BK104.out); have n9_ := mk0 (ngt hg BK104.out); clear HO0_1; clear HO0_2; clear BK104; clear HK; clear HB; have HO0_1 := n0_; have HO0_2 := n1_; have BK104 := n2_; have HK := n3_; have HB := n4_; have BK105 := n5_; have GW105 := n6_; have GE105 := n7_; have NB104_105 := n8_; have NB105_104 := n9_; clear n0_ n1_ n2_ n3_ n4_ n5_ n6_ n7_ n8_ n9_; clear hb hbox hg) | ((with_reducible refine gate_callee (f := 38) rfl ?_); refine goesL_ (some 17) rfl rfl Tryd.func38 (by kernel_rfl) rfl #[.string a2, .string (⟨#[32]⟩ : ByteArray)] rfl (by (try simp only [List.map_toArray, List.map_cons, List.map_nil]); first | done | rfl | (simp only [List.length_drop, List.length_take]; rfl)) ?_; (with_reducible refine (strings_Cut.calls a2 (⟨#[32]⟩ : ByteArray) t106 t107 t108 _ A4.out).mono ?_); rintro e w' ⟨rfl, ⟨nd, rfl⟩⟩; refine ⟨_, rfl, ?_⟩; (try (rw [drewN_self w26]; generalize hq_ : World.drewN w26 _ = w26; have n0_ : Aside0 (Kd.R k40 40 w26 w0.heap.size (fun k_ => ((P0_1_ k_ ∨ P0_2_ k_) ∨ w.heap.size ≤ k_)) (.slice Ao23 l0_1.length co23) l0_1) := ⟨by rw [← hq_]; exact (by exact rok HO0_1.out)⟩; have n1_ : Aside0 (Kd.R k42 42 w26 w0.heap.size (fun k_ => ((P0_1_ k_ ∨ P0_2_ k_) ∨ w.heap.size ≤ k_)) (.slice Ao24 l0_2.length co24) l0_2) := ⟨by rw [← hq_]; exact (by exact rok HO0_2.out)⟩; have n2_ : Aside0 (w26.heap[gb104]? = some (.cells #[.string a0_0, .slice Ao23 l0_1.length co23, .slice Ao24 l0_2.length co24] 25 (0, 0))) := ⟨by rw [← hq_]; exact (by exact obk BK104.out)⟩; have n3_ : Aside0 (w26.heap[gb105]? = some (.cells #[.string (⟨#[]⟩ : ByteArray), .slice none 0 0, .slice none 0 0] 25 (0, 0))) := ⟨by rw [← hq_]; exact (by exact obk BK105.out)⟩; have n4_ : Aside0 (Kept w w26 (fun k_ => P0_1_ k_ ∨ P0_2_ k_)) := ⟨by rw [← hq_]; exact (by repeat (first | (with_reducible first | exact HK.out | apply Kept.alloc | apply Kept.drewN | apply Kept.drew | refine Kept.setCell ?_ (.inr GW104.out) _ | refine Kept.setCell ?_ (.inr GW105.out) _) | exact HK.out))⟩; have n5_ : Aside0 (Below w0.heap.size w0 w26) := ⟨by rw [← hq_]; exact (by exact bok HB.out)⟩; clear HO0_1 HO0_2 BK104 BK105 HK HB hq_; have HO0_1 := n0_; have HO0_2 := n1_; have BK104 := n2_; have BK105 := n3_; have HK := n4_; have HB := n5_; clear n0_ n1_ n2_ n3_ n4_ n5_)); have hnb27 := NB104_105.out; have hnc27 := NB105_104.out; obtain ⟨hcz28_0, hcz28_1, hcz28_2, hfz28_0, hfz28_1, hfz28_2⟩ := blk3 BK104.out; obtain ⟨hcz29_0, hcz29_1, hcz29_2, hfz29_0, hfz29_1, hfz29_2⟩ := blk3 BK105.out))
   refine bodyPost_ret (results_ct rfl _ _ gb105 25 #[.string t107, .slice Ao23 l0_1.length co23, .slice Ao24 l0_2.length co24] (0, 0) _ rfl (by exact obk (blk_put (obk (blk_put (obk (blk_put (obk (blkf (obk BK105.out) NB105_104.out)) 0 _ rfl)) 1 _ rfl)) 2 _ rfl)) Tryd.underlying25 rfl (by kernel_rfl)) rfl ?_
   exact ⟨_, _, by first | rfl | (simp [*, errW_none, errW_some] <;> rfl), by (with_reducible repeat (first | apply Kd.R_alloc | apply Kd.R_drewN | apply Kd.R_drew)); exact Kd.R_mono (Kd.R_far (p := ⟨gb105, 2, none⟩) (Kd.R_far (p := ⟨gb105, 1, none⟩) (Kd.R_far (p := ⟨gb105, 0, none⟩) (Kd.R_far (p := ⟨gb104, 0, none⟩) (Kd.R_types (Kd.R_types HO0_1.out BK104.out (by decide)) BK105.out (by decide)) (fun _ hk => hk.1.2) (.string t107)) (fun _ hk => hk.2) (.string t107)) (fun _ hk => hk.2) (.slice Ao23 l0_1.length co23)) (fun _ hk => hk.2) (.slice Ao24 l0_2.length co24)) (fun _ hk => hk.1.1), by (with_reducible repeat (first | apply Kd.R_alloc | apply Kd.R_drewN | apply Kd.R_drew)); exact Kd.R_mono (Kd.R_far (p := ⟨gb105, 2, none⟩) (Kd.R_far (p := ⟨gb105, 1, none⟩) (Kd.R_far (p := ⟨gb105, 0, none⟩) (Kd.R_far (p := ⟨gb104, 0, none⟩) (Kd.R_types (Kd.R_types HO0_2.out BK104.out (by decide)) BK105.out (by decide)) (fun _ hk => hk.1.2) (.string t107)) (fun _ hk => hk.2) (.string t107)) (fun _ hk => hk.2) (.slice Ao23 l0_1.length co23)) (fun _ hk => hk.2) (.slice Ao24 l0_2.length co24)) (fun _ hk => hk.1.1), by exact bok HB.out, by repeat (first | (with_reducible first | exact HK.out | apply Kept.alloc | apply Kept.drewN | apply Kept.drew | refine Kept.setCell ?_ (.inr GW104.out) _ | refine Kept.setCell ?_ (.inr GW105.out) _) | exact HK.out)⟩
 ·
  rw [if_neg c5] at H
  have c5b0 : (a1 == 0) = false := beq_eq_false_iff_ne.mpr c5
  have c5b1 : (a1 != 0) = true := bne_iff_ne.mpr c5
  by_cases c30 : t106.toList = ([102, 108, 111, 119] : List UInt8)
  ·
   rw [if_pos c30] at H
   have c30b0 : (t106.toList == ([102, 108, 111, 119] : List UInt8)) = true := beq_iff_eq.mpr c30
   have c30b1 : (t106.toList != ([102, 108, 111, 119] : List UInt8)) = false := bne_eq_false_iff_eq.mpr c30
   clear c30
   replace H := Option.bind_eq_some_iff.mp H
   obtain ⟨⟨t110, t111, t112, t113, t114, t115⟩, A310, H⟩ := H
   replace H : (if t115 = true then (if (l0_2.length : Int) ≥ 90 then (some (a0_0, l0_1, l0_2, 15)) else (if l0_2.length < 2932031007402 then (some (a0_0, l0_1, (l0_2 ++ [(⟨t110, t111, t112, t113, t114⟩ : S42)]), 0)) else (none))) else (some (a0_0, l0_1, l0_2, 2))) = some (r1, r2, r3, r4) := H
   have A31 := mk0 A310
   clear A310
   by_cases c32 : t115 = true
   ·
    subst c32
    have H1 : (if (l0_2.length : Int) ≥ 90 then (some (a0_0, l0_1, l0_2, 15)) else (if l0_2.length < 2932031007402 then (some (a0_0, l0_1, (l0_2 ++ [(⟨t110, t111, t112, t113, t114⟩ : S42)]), 0)) else (none))) = some (r1, r2, r3, r4) := by rw [if_pos rfl] at H; exact H
    clear H
    have H := H1
    clear H1
    by_cases c33 : (l0_2.length : Int) ≥ 90
    ·
     rw [if_pos c33] at H
     have c33b0 : decide (90 ≤ (l0_2.length : Int)) = true := decide_eq_true c33
     have c33b1 : decide (90 ≤ l0_2.length) = true := decide_eq_true (by omega)
     clear c33
     simp only [Option.some.injEq, Prod.mk.injEq] at H
     obtain ⟨rfl, rfl, rfl, rfl⟩ := H
     obtain ⟨Ao34, co34, eo34⟩ := Kd.R_slice HO0_1.out
     subst eo34
     obtain ⟨Ao35, co35, eo35⟩ := Kd.R_slice HO0_2.out
     subst eo35
     go_enter Tryd.func21, Tryd.ntmps21
     go_wp2_with (first | ((with_reducible refine gate_dst (N := 3) rfl ?_); refine box_event ?hg (N := 3) ?hd (cs := #[.string a0_0, .slice Ao34 l0_1.length co34, .slice Ao35 l0_2.length co35]) (t := 25) ?hr ?_; (case hd => rfl); (case hg => rfl); (case hr => first | (go_simp; done) | (go_simp; rfl)); intro gb104 hg w36 hbox hb; have n0_ := mk0 (Kd.R_below (by exact rok HO0_1.out) hb); have n1_ := mk0 (Kd.R_below (by exact rok HO0_2.out) hb); have n2_ := mk0 (Kept.below (S := (fun k_ => P0_1_ k_ ∨ P0_2_ k_)) (by repeat (first | (with_reducible first | exact HK.out | apply Kept.alloc | apply Kept.drewN | apply Kept.drew) | exact HK.out)) hb); have n3_ := mk0 (bst HB.out hb); have n4_ := mk0 (hbox); have n5_ := mk0 ((by rw [hg]; exact (by first | exact HK.out.1 | exact (show Kept w _ (fun k_ => P0_1_ k_ ∨ P0_2_ k_) from by repeat (first | (with_reducible first | exact HK.out | apply Kept.alloc | apply Kept.drewN | apply Kept.drew) | exact HK.out)).1) : w.heap.size ≤ gb104)); have n6_ := mk0 ((by rw [hg]; exact (below_size (by exact bok HB.out)) : w0.heap.size ≤ gb104)); clear HO0_1; clear HO0_2; clear HK; clear HB; have HO0_1 := n0_; have HO0_2 := n1_; have HK := n2_; have HB := n3_; have BK104 := n4_; have GW104 := n5_; have GE104 := n6_; clear n0_ n1_ n2_ n3_ n4_ n5_ n6_; clear hb hbox hg) | ((with_reducible refine gate_dst (N := 6) rfl ?_); refine box_event ?hg (N := 6) ?hd (cs := #[.string (⟨#[]⟩ : ByteArray), .slice none 0 0, .slice none 0 0]) (t := 25) ?hr ?_; (case hd => rfl); (case hg => rfl); (case hr => first | (go_simp; done) | (go_simp; rfl)); intro gb105 hg w37 hbox hb; have n0_ := mk0 (Kd.R_below (by exact rok HO0_1.out) hb); have n1_ := mk0 (Kd.R_below (by exact rok HO0_2.out) hb); have n2_ := mk0 (blk_below (obk BK104.out) hb); have n3_ := mk0 (Kept.below (S := (fun k_ => P0_1_ k_ ∨ P0_2_ k_)) (by repeat (first | (with_reducible first | exact HK.out | apply Kept.alloc | apply Kept.drewN | apply Kept.drew | refine Kept.setCell ?_ (.inr GW104.out) _) | exact HK.out)) hb); have n4_ := mk0 (bst HB.out hb); have n5_ := mk0 (hbox); have n6_ := mk0 ((by rw [hg]; exact (by first | exact HK.out.1 | exact (show Kept w _ (fun k_ => P0_1_ k_ ∨ P0_2_ k_) from by repeat (first | (with_reducible first | exact HK.out | apply Kept.alloc | apply Kept.drewN | apply Kept.drew | refine Kept.setCell ?_ (.inr GW104.out) _) | exact HK.out)).1) : w.heap.size ≤ gb105)); have n7_ := mk0 ((by rw [hg]; exact (below_size (by exact bok HB.out)) : w0.heap.size ≤ gb105)); have n8_ := mk0 (nlt hg BK104.out); have n9_ := mk0 (ngt hg BK104.out); clear HO0_1; clear HO0_2; clear BK104; clear HK; clear HB; have HO0_1 := n0_; have HO0_2 := n1_; have BK104 := n2_; have HK := n3_; have HB := n4_; have BK105 := n5_; have GW105 := n6_; have GE105 := n7_; have NB104_105 := n8_; have NB105_104 := n9_; clear n0_ n1_ n2_ n3_ n4_ n5_ n6_ n7_ n8_ n9_; clear hb hbox hg) | ((with_reducible refine gate_callee (f := 38) rfl ?_); refine goesL_ (some 17) rfl rfl Tryd.func38 (by kernel_rfl) rfl #[.string a2, .string (⟨#[32]⟩ : ByteArray)] rfl (by (try simp only [List.map_toArray, List.map_cons, List.map_nil]); first | done | rfl | (simp only [List.length_drop, List.length_take]; rfl)) ?_; (with_reducible refine (strings_Cut.calls a2 (⟨#[32]⟩ : ByteArray) t106 t107 t108 _ A4.out).mono ?_); rintro e w' ⟨rfl, ⟨nd, rfl⟩⟩; refine ⟨_, rfl, ?_⟩; (try (rw [drewN_self w37]; generalize hq_ : World.drewN w37 _ = w37; have n0_ : Aside0 (Kd.R k40 40 w37 w0.heap.size (fun k_ => ((P0_1_ k_ ∨ P0_2_ k_) ∨ w.heap.size ≤ k_)) (.slice Ao34 l0_1.length co34) l0_1) := ⟨by rw [← hq_]; exact (by exact rok HO0_1.out)⟩; have n1_ : Aside0 (Kd.R k42 42 w37 w0.heap.size (fun k_ => ((P0_1_ k_ ∨ P0_2_ k_) ∨ w.heap.size ≤ k_)) (.slice Ao35 l0_2.length co35) l0_2) := ⟨by rw [← hq_]; exact (by exact rok HO0_2.out)⟩; have n2_ : Aside0 (w37.heap[gb104]? = some (.cells #[.string a0_0, .slice Ao34 l0_1.length co34, .slice Ao35 l0_2.length co35] 25 (0, 0))) := ⟨by rw [← hq_]; exact (by exact obk BK104.out)⟩; have n3_ : Aside0 (w37.heap[gb105]? = some (.cells #[.string (⟨#[]⟩ : ByteArray), .slice none 0 0, .slice none 0 0] 25 (0, 0))) := ⟨by rw [← hq_]; exact (by exact obk BK105.out)⟩; have n4_ : Aside0 (Kept w w37 (fun k_ => P0_1_ k_ ∨ P0_2_ k_)) := ⟨by rw [← hq_]; exact (by repeat (first | (with_reducible first | exact HK.out | apply Kept.alloc | apply Kept.drewN | apply Kept.drew | refine Kept.setCell ?_ (.inr GW104.out) _ | refine Kept.setCell ?_ (.inr GW105.out) _) | exact HK.out))⟩; have n5_ : Aside0 (Below w0.heap.size w0 w37) := ⟨by rw [← hq_]; exact (by exact bok HB.out)⟩; clear HO0_1 HO0_2 BK104 BK105 HK HB hq_; have HO0_1 := n0_; have HO0_2 := n1_; have BK104 := n2_; have BK105 := n3_; have HK := n4_; have HB := n5_; clear n0_ n1_ n2_ n3_ n4_ n5_))) | ((with_reducible refine gate_callee (f := 40) rfl ?_); refine goesL_ (some 71) rfl rfl Tryd.func40 (by kernel_rfl) rfl #[.string t107] rfl (by (try simp only [List.map_toArray, List.map_cons, List.map_nil]); first | done | rfl | (simp only [List.length_drop, List.length_take]; rfl)) ?_; (with_reducible refine (def_flow.calls k t107 t110 t111 t112 t113 t114 true _ A31.out).mono ?_); rintro e w38 ⟨rfl, hb⟩; refine ⟨_, rfl, ?_⟩; have n0_ := mk0 (Kd.R_below (by exact rok HO0_1.out) hb); have n1_ := mk0 (Kd.R_below (by exact rok HO0_2.out) hb); have n2_ := mk0 (blk_below (obk BK104.out) hb); have n3_ := mk0 (blk_below (obk BK105.out) hb); have n4_ := mk0 (Kept.below (S := (fun k_ => P0_1_ k_ ∨ P0_2_ k_)) (by repeat (first | (with_reducible first | exact HK.out | apply Kept.alloc | apply Kept.drewN | apply Kept.drew | refine Kept.setCell ?_ (.inr GW104.out) _ | refine Kept.setCell ?_ (.inr GW105.out) _) | exact HK.out)) hb); have n5_ := mk0 (bst HB.out hb); clear HO0_1; clear HO0_2; clear BK104; clear BK105; clear HK; clear HB; have HO0_1 := n0_; have HO0_2 := n1_; have BK104 := n2_; have BK105 := n3_; have HK := n4_; have HB := n5_; clear n0_ n1_ n2_ n3_ n4_ n5_; (try clear hb)) | ((with_reducible refine gate_dst (N := 11) rfl ?_); refine box_event ?hg (N := 11) ?hd (cs := #[.int .i64 0, .int .i64 0, .int .i64 0, .int .i64 0, .string (⟨#[]⟩ : ByteArray)]) (t := 42) ?hr ?_; (case hd => rfl); (case hg => rfl); (case hr => first | (go_simp; done) | (go_simp; rfl)); intro gb116 hg w39 hbox hb; have n0_ := mk0 (Kd.R_below (by exact rok HO0_1.out) hb); have n1_ := mk0 (Kd.R_below (Kd.R_elderB (by exact rok HO0_2.out) gb116 (Nat.le_of_eq hg.symm)) hb); have n2_ := mk0 (blk_below (obk BK104.out) hb); have n3_ := mk0 (blk_below (obk BK105.out) hb); have n4_ := mk0 (Kept.below (S := (fun k_ => P0_1_ k_ ∨ P0_2_ k_)) (by repeat (first | (with_reducible first | exact HK.out | apply Kept.alloc | apply Kept.drewN | apply Kept.drew | refine Kept.setCell ?_ (.inr GW104.out) _ | refine Kept.setCell ?_ (.inr GW105.out) _) | exact HK.out)) hb); have n5_ := mk0 (bst HB.out hb); have n6_ := mk0 (hbox); have n7_ := mk0 ((by rw [hg]; exact (by first | exact HK.out.1 | exact (show Kept w _ (fun k_ => P0_1_ k_ ∨ P0_2_ k_) from by repeat (first | (with_reducible first | exact HK.out | apply Kept.alloc | apply Kept.drewN | apply Kept.drew | refine Kept.setCell ?_ (.inr GW104.out) _ | refine Kept.setCell ?_ (.inr GW105.out) _) | exact HK.out)).1) : w.heap.size ≤ gb116)); have n8_ := mk0 ((by rw [hg]; exact (below_size (by exact bok HB.out)) : w0.heap.size ≤ gb116)); have n9_ := mk0 (nlt hg BK104.out); have n10_ := mk0 (ngt hg BK104.out); have n11_ := mk0 (nlt hg BK105.out); have n12_ := mk0 (ngt hg BK105.out); clear HO0_1; clear HO0_2; clear BK104; clear BK105; clear HK; clear HB; have HO0_1 := n0_; have HO0_2 := n1_; have BK104 := n2_; have BK105 := n3_; have HK := n4_; have HB := n5_; have BK116 := n6_; have GW116 := n7_; have GE116 := n8_; have NB104_116 := n9_; have NB116_104 := n10_; have NB105_116 := n11_; have NB116_105 := n12_; clear n0_ n1_ n2_ n3_ n4_ n5_ n6_ n7_ n8_ n9_ n10_ n11_ n12_; clear hb hbox hg; have hnb40 := NB116_104.out; have hnc40 := NB104_116.out; have hnb41 := NB116_105.out; have hnc41 := NB105_116.out; obtain ⟨hcz42_0, hcz42_1, hcz42_2, hcz42_3, hcz42_4, hfz42_0, hfz42_1, hfz42_2, hfz42_3, hfz42_4⟩ := blk5 BK116.out; have hnb43 := NB104_105.out; have hnc43 := NB105_104.out; obtain ⟨hcz44_0, hcz44_1, hcz44_2, hfz44_0, hfz44_1, hfz44_2⟩ := blk3 BK104.out; obtain ⟨hcz45_0, hcz45_1, hcz45_2, hfz45_0, hfz45_1, hfz45_2⟩ := blk3 BK105.out))
     refine bodyPost_ret (results_ct rfl _ _ gb105 25 #[.string a0_0, .slice Ao34 l0_1.length co34, .slice Ao35 l0_2.length co35] (0, 0) _ rfl (by exact obk (blk_put (obk (blk_put (obk (blk_put (obk (blkf (obk (blkf (obk (blkf (obk (blkf (obk (blkf (obk BK105.out) NB105_116.out)) NB105_116.out)) NB105_116.out)) NB105_116.out)) NB105_116.out)) 0 _ rfl)) 1 _ rfl)) 2 _ rfl)) Tryd.underlying25 rfl (by kernel_rfl)) rfl ?_
     exact ⟨_, _, by first | rfl | (simp [*, errW_none, errW_some] <;> rfl), by (with_reducible repeat (first | apply Kd.R_alloc | apply Kd.R_drewN | apply Kd.R_drew)); exact Kd.R_mono (Kd.R_far (p := ⟨gb105, 2, none⟩) (Kd.R_far (p := ⟨gb105, 1, none⟩) (Kd.R_far (p := ⟨gb105, 0, none⟩) (Kd.R_far (p := ⟨gb116, 4, none⟩) (Kd.R_far (p := ⟨gb116, 3, none⟩) (Kd.R_far (p := ⟨gb116, 2, none⟩) (Kd.R_far (p := ⟨gb116, 1, none⟩) (Kd.R_far (p := ⟨gb116, 0, none⟩) (Kd.R_types (Kd.R_types HO0_1.out BK116.out (by decide)) BK105.out (by decide)) (fun _ hk => hk.1.2) (.int .i64 t110)) (fun _ hk => hk.1.2) (.int .i64 t111)) (fun _ hk => hk.1.2) (.int .i64 t112)) (fun _ hk => hk.1.2) (.int .i64 t113)) (fun _ hk => hk.1.2) (.string t114)) (fun _ hk => hk.2) (.string a0_0)) (fun _ hk => hk.2) (.slice Ao34 l0_1.length co34)) (fun _ hk => hk.2) (.slice Ao35 l0_2.length co35)) (fun _ hk => hk.1.1), by (with_reducible repeat (first | apply Kd.R_alloc | apply Kd.R_drewN | apply Kd.R_drew)); exact Kd.R_mono (Kd.R_far (p := ⟨gb105, 2, none⟩) (Kd.R_far (p := ⟨gb105, 1, none⟩) (Kd.R_far (p := ⟨gb105, 0, none⟩) (Kd.R_far (p := ⟨gb116, 4, none⟩) (Kd.R_far (p := ⟨gb116, 3, none⟩) (Kd.R_far (p := ⟨gb116, 2, none⟩) (Kd.R_far (p := ⟨gb116, 1, none⟩) (Kd.R_far (p := ⟨gb116, 0, none⟩) (Kd.R_types (Kd.R_mono HO0_2.out (fun k_ hk => (⟨hk, hk.2⟩ : _ ∧ k_ ≠ gb116))) BK105.out (by decide)) (fun _ hk => hk.1.2) (.int .i64 t110)) (fun _ hk => hk.1.2) (.int .i64 t111)) (fun _ hk => hk.1.2) (.int .i64 t112)) (fun _ hk => hk.1.2) (.int .i64 t113)) (fun _ hk => hk.1.2) (.string t114)) (fun _ hk => hk.2) (.string a0_0)) (fun _ hk => hk.2) (.slice Ao34 l0_1.length co34)) (fun _ hk => hk.2) (.slice Ao35 l0_2.length co35)) (fun _ hk => hk.1.1.1), by exact bok HB.out, by repeat (first | (with_reducible first | exact HK.out | apply Kept.alloc | apply Kept.drewN | apply Kept.drew | refine Kept.setCell ?_ (.inr GW104.out) _ | refine Kept.setCell ?_ (.inr GW105.out) _ | refine Kept.setCell ?_ (.inr GW116.out) _) | exact HK.out)⟩
    ·
     rw [if_neg c33] at H
     have c33b0 : decide (90 ≤ (l0_2.length : Int)) = false := decide_eq_false c33
     have c33b1 : decide (90 ≤ l0_2.length) = false := decide_eq_false (by omega)
     clear c33
     by_cases c46 : l0_2.length < 2932031007402
     ·
      rw [if_pos c46] at H
      have LMc46 := mk0 c46
      clear c46
      obtain ⟨y117, hy117⟩ : ∃ y_ : List (S42), y_ = (l0_2 ++ [(⟨t110, t111, t112, t113, t114⟩ : S42)]) := ⟨_, rfl⟩
      replace H : (some (a0_0, l0_1, y117, 0)) = some (r1, r2, r3, r4) := by first | (rw [hy117]; with_reducible exact H) | (have H2_ := (Option.bind_some _ _).symm.trans H; rw [hy117]; with_reducible exact H2_) | (have H2_ := (Option.bind_some _ _).symm.trans H; with_reducible exact H2_) | with_reducible exact H | (rw [hy117]; exact H) | exact H
      have Ny117 := mk0 hy117
      clear hy117
      simp only [Option.some.injEq, Prod.mk.injEq] at H
      obtain ⟨rfl, rfl, rfl, rfl⟩ := H
      obtain ⟨Ao47, co47, eo47⟩ := Kd.R_slice HO0_1.out
      subst eo47
      obtain ⟨Ao48, co48, eo48⟩ := Kd.R_slice HO0_2.out
      subst eo48
      go_enter Tryd.func21, Tryd.ntmps21
      go_wp2_with (first | ((with_reducible refine gate_dst (N := 3) rfl ?_); refine box_event ?hg (N := 3) ?hd (cs := #[.string a0_0, .slice Ao47 l0_1.length co47, .slice Ao48 l0_2.length co48]) (t := 25) ?hr ?_; (case hd => rfl); (case hg => rfl); (case hr => first | (go_simp; done) | (go_simp; rfl)); intro gb104 hg w49 hbox hb; have n0_ := mk0 (Kd.R_below (by exact rok HO0_1.out) hb); have n1_ := mk0 (Kd.R_below (by exact rok HO0_2.out) hb); have n2_ := mk0 (Kept.below (S := (fun k_ => P0_1_ k_ ∨ P0_2_ k_)) (by repeat (first | (with_reducible first | exact HK.out | apply Kept.alloc | apply Kept.drewN | apply Kept.drew) | exact HK.out)) hb); have n3_ := mk0 (bst HB.out hb); have n4_ := mk0 (hbox); have n5_ := mk0 ((by rw [hg]; exact (by first | exact HK.out.1 | exact (show Kept w _ (fun k_ => P0_1_ k_ ∨ P0_2_ k_) from by repeat (first | (with_reducible first | exact HK.out | apply Kept.alloc | apply Kept.drewN | apply Kept.drew) | exact HK.out)).1) : w.heap.size ≤ gb104)); have n6_ := mk0 ((by rw [hg]; exact (below_size (by exact bok HB.out)) : w0.heap.size ≤ gb104)); clear HO0_1; clear HO0_2; clear HK; clear HB; have HO0_1 := n0_; have HO0_2 := n1_; have HK := n2_; have HB := n3_; have BK104 := n4_; have GW104 := n5_; have GE104 := n6_; clear n0_ n1_ n2_ n3_ n4_ n5_ n6_; clear hb hbox hg) | ((with_reducible refine gate_dst (N := 6) rfl ?_); refine box_event ?hg (N := 6) ?hd (cs := #[.string (⟨#[]⟩ : ByteArray), .slice none 0 0, .slice none 0 0]) (t := 25) ?hr ?_; (case hd => rfl); (case hg => rfl); (case hr => first | (go_simp; done) | (go_simp; rfl)); intro gb105 hg w50 hbox hb; have n0_ := mk0 (Kd.R_below (by exact rok HO0_1.out) hb); have n1_ := mk0 (Kd.R_below (by exact rok HO0_2.out) hb); have n2_ := mk0 (blk_below (obk BK104.out) hb); have n3_ := mk0 (Kept.below (S := (fun k_ => P0_1_ k_ ∨ P0_2_ k_)) (by repeat (first | (with_reducible first | exact HK.out | apply Kept.alloc | apply Kept.drewN | apply Kept.drew | refine Kept.setCell ?_ (.inr GW104.out) _) | exact HK.out)) hb); have n4_ := mk0 (bst HB.out hb); have n5_ := mk0 (hbox); have n6_ := mk0 ((by rw [hg]; exact (by first | exact HK.out.1 | exact (show Kept w _ (fun k_ => P0_1_ k_ ∨ P0_2_ k_) from by repeat (first | (with_reducible first | exact HK.out | apply Kept.alloc | apply Kept.drewN | apply Kept.drew | refine Kept.setCell ?_ (.inr GW104.out) _) | exact HK.out)).1) : w.heap.size ≤ gb105)); have n7_ := mk0 ((by rw [hg]; exact (below_size (by exact bok HB.out)) : w0.heap.size ≤ gb105)); have n8_ := mk0 (nlt hg BK104.out); have n9_ := mk0 (ngt hg BK104.out); clear HO0_1; clear HO0_2; clear BK104; clear HK; clear HB; have HO0_1 := n0_; have HO0_2 := n1_; have BK104 := n2_; have HK := n3_; have HB := n4_; have BK105 := n5_; have GW105 := n6_; have GE105 := n7_; have NB104_105 := n8_; have NB105_104 := n9_; clear n0_ n1_ n2_ n3_ n4_ n5_ n6_ n7_ n8_ n9_; clear hb hbox hg) | ((with_reducible refine gate_callee (f := 38) rfl ?_); refine goesL_ (some 17) rfl rfl Tryd.func38 (by kernel_rfl) rfl #[.string a2, .string (⟨#[32]⟩ : ByteArray)] rfl (by (try simp only [List.map_toArray, List.map_cons, List.map_nil]); first | done | rfl | (simp only [List.length_drop, List.length_take]; rfl)) ?_; (with_reducible refine (strings_Cut.calls a2 (⟨#[32]⟩ : ByteArray) t106 t107 t108 _ A4.out).mono ?_); rintro e w' ⟨rfl, ⟨nd, rfl⟩⟩; refine ⟨_, rfl, ?_⟩; (try (rw [drewN_self w50]; generalize hq_ : World.drewN w50 _ = w50; have n0_ : Aside0 (Kd.R k40 40 w50 w0.heap.size (fun k_ => ((P0_1_ k_ ∨ P0_2_ k_) ∨ w.heap.size ≤ k_)) (.slice Ao47 l0_1.length co47) l0_1) := ⟨by rw [← hq_]; exact (by exact rok HO0_1.out)⟩; have n1_ : Aside0 (Kd.R k42 42 w50 w0.heap.size (fun k_ => ((P0_1_ k_ ∨ P0_2_ k_) ∨ w.heap.size ≤ k_)) (.slice Ao48 l0_2.length co48) l0_2) := ⟨by rw [← hq_]; exact (by exact rok HO0_2.out)⟩; have n2_ : Aside0 (w50.heap[gb104]? = some (.cells #[.string a0_0, .slice Ao47 l0_1.length co47, .slice Ao48 l0_2.length co48] 25 (0, 0))) := ⟨by rw [← hq_]; exact (by exact obk BK104.out)⟩; have n3_ : Aside0 (w50.heap[gb105]? = some (.cells #[.string (⟨#[]⟩ : ByteArray), .slice none 0 0, .slice none 0 0] 25 (0, 0))) := ⟨by rw [← hq_]; exact (by exact obk BK105.out)⟩; have n4_ : Aside0 (Kept w w50 (fun k_ => P0_1_ k_ ∨ P0_2_ k_)) := ⟨by rw [← hq_]; exact (by repeat (first | (with_reducible first | exact HK.out | apply Kept.alloc | apply Kept.drewN | apply Kept.drew | refine Kept.setCell ?_ (.inr GW104.out) _ | refine Kept.setCell ?_ (.inr GW105.out) _) | exact HK.out))⟩; have n5_ : Aside0 (Below w0.heap.size w0 w50) := ⟨by rw [← hq_]; exact (by exact bok HB.out)⟩; clear HO0_1 HO0_2 BK104 BK105 HK HB hq_; have HO0_1 := n0_; have HO0_2 := n1_; have BK104 := n2_; have BK105 := n3_; have HK := n4_; have HB := n5_; clear n0_ n1_ n2_ n3_ n4_ n5_))) | ((with_reducible refine gate_callee (f := 40) rfl ?_); refine goesL_ (some 71) rfl rfl Tryd.func40 (by kernel_rfl) rfl #[.string t107] rfl (by (try simp only [List.map_toArray, List.map_cons, List.map_nil]); first | done | rfl | (simp only [List.length_drop, List.length_take]; rfl)) ?_; (with_reducible refine (def_flow.calls k t107 t110 t111 t112 t113 t114 true _ A31.out).mono ?_); rintro e w51 ⟨rfl, hb⟩; refine ⟨_, rfl, ?_⟩; have n0_ := mk0 (Kd.R_below (by exact rok HO0_1.out) hb); have n1_ := mk0 (Kd.R_below (by exact rok HO0_2.out) hb); have n2_ := mk0 (blk_below (obk BK104.out) hb); have n3_ := mk0 (blk_below (obk BK105.out) hb); have n4_ := mk0 (Kept.below (S := (fun k_ => P0_1_ k_ ∨ P0_2_ k_)) (by repeat (first | (with_reducible first | exact HK.out | apply Kept.alloc | apply Kept.drewN | apply Kept.drew | refine Kept.setCell ?_ (.inr GW104.out) _ | refine Kept.setCell ?_ (.inr GW105.out) _) | exact HK.out)) hb); have n5_ := mk0 (bst HB.out hb); clear HO0_1; clear HO0_2; clear BK104; clear BK105; clear HK; clear HB; have HO0_1 := n0_; have HO0_2 := n1_; have BK104 := n2_; have BK105 := n3_; have HK := n4_; have HB := n5_; clear n0_ n1_ n2_ n3_ n4_ n5_; (try clear hb)) | ((with_reducible refine gate_dst (N := 11) rfl ?_); refine box_event ?hg (N := 11) ?hd (cs := #[.int .i64 0, .int .i64 0, .int .i64 0, .int .i64 0, .string (⟨#[]⟩ : ByteArray)]) (t := 42) ?hr ?_; (case hd => rfl); (case hg => rfl); (case hr => first | (go_simp; done) | (go_simp; rfl)); intro gb116 hg w52 hbox hb; have n0_ := mk0 (Kd.R_below (by exact rok HO0_1.out) hb); have n1_ := mk0 (Kd.R_below (Kd.R_elderB (by exact rok HO0_2.out) gb116 (Nat.le_of_eq hg.symm)) hb); have n2_ := mk0 (blk_below (obk BK104.out) hb); have n3_ := mk0 (blk_below (obk BK105.out) hb); have n4_ := mk0 (Kept.below (S := (fun k_ => P0_1_ k_ ∨ P0_2_ k_)) (by repeat (first | (with_reducible first | exact HK.out | apply Kept.alloc | apply Kept.drewN | apply Kept.drew | refine Kept.setCell ?_ (.inr GW104.out) _ | refine Kept.setCell ?_ (.inr GW105.out) _) | exact HK.out)) hb); have n5_ := mk0 (bst HB.out hb); have n6_ := mk0 (hbox); have n7_ := mk0 ((by rw [hg]; exact (by first | exact HK.out.1 | exact (show Kept w _ (fun k_ => P0_1_ k_ ∨ P0_2_ k_) from by repeat (first | (with_reducible first | exact HK.out | apply Kept.alloc | apply Kept.drewN | apply Kept.drew | refine Kept.setCell ?_ (.inr GW104.out) _ | refine Kept.setCell ?_ (.inr GW105.out) _) | exact HK.out)).1) : w.heap.size ≤ gb116)); have n8_ := mk0 ((by rw [hg]; exact (below_size (by exact bok HB.out)) : w0.heap.size ≤ gb116)); have n9_ := mk0 (nlt hg BK104.out); have n10_ := mk0 (ngt hg BK104.out); have n11_ := mk0 (nlt hg BK105.out); have n12_ := mk0 (ngt hg BK105.out); clear HO0_1; clear HO0_2; clear BK104; clear BK105; clear HK; clear HB; have HO0_1 := n0_; have HO0_2 := n1_; have BK104 := n2_; have BK105 := n3_; have HK := n4_; have HB := n5_; have BK116 := n6_; have GW116 := n7_; have GE116 := n8_; have NB104_116 := n9_; have NB116_104 := n10_; have NB105_116 := n11_; have NB116_105 := n12_; clear n0_ n1_ n2_ n3_ n4_ n5_ n6_ n7_ n8_ n9_ n10_ n11_ n12_; clear hb hbox hg; have hnb53 := NB116_104.out; have hnc53 := NB104_116.out; have hnb54 := NB116_105.out; have hnc54 := NB105_116.out; obtain ⟨hcz55_0, hcz55_1, hcz55_2, hcz55_3, hcz55_4, hfz55_0, hfz55_1, hfz55_2, hfz55_3, hfz55_4⟩ := blk5 BK116.out; have hnb56 := NB104_105.out; have hnc56 := NB105_104.out; obtain ⟨hcz57_0, hcz57_1, hcz57_2, hfz57_0, hfz57_1, hfz57_2⟩ := blk3 BK104.out) | ((with_reducible refine gate_builtin (b := .append) (xs := #[.tmp 85, .tmp 87]) rfl ?_); at_builtin; refine Kd.R_append k42 (w0 := w0) w0.heap.size rfl (.tmp 85) (.tmp 87) 23 42 (.agg #[(.int .i64 0), (.int .i64 0), (.int .i64 0), (.int .i64 0), (.string ⟨#[]⟩)]) 48 rfl Tryd.underlying23 info42 rfl (by decide) (by omega) (.slice Ao48 l0_2.length co48) l0_2 (⟨t110, t111, t112, t113, t114⟩ : S42) [.int .i64 t110, .int .i64 t111, .int .i64 t112, .int .i64 t113, .string t114] (fun k_ => ((P0_1_ k_ ∨ P0_2_ k_) ∨ w.heap.size ≤ k_) ∧ k_ ≠ gb116) (fun _ => False) rfl (by first | (go_simp; done) | (go_simp; rfl)) ?aP (fun _ hk => hk.elim) ?aF ?aO ?aB ?aS ?aL ?_; (case aP => exact k42_mkM _ _ _ (⟨t110, t111, t112, t113, t114⟩ : S42)); (case aB => exact (by exact bok HB.out)); (case aF => exact (fun k_ hk => ⟨(.inr (Nat.le_trans (show Kept w _ (fun k_ => P0_1_ k_ ∨ P0_2_ k_) from by repeat (first | (with_reducible first | exact HK.out | apply Kept.alloc | apply Kept.drewN | apply Kept.drew | refine Kept.setCell ?_ (.inr GW104.out) _ | refine Kept.setCell ?_ (.inr GW105.out) _ | refine Kept.setCell ?_ (.inr GW116.out) _) | exact HK.out)).1 hk)), Kd.freshB (g := gb116) (o := .cells #[.int .i64 t110, .int .i64 t111, .int .i64 t112, .int .i64 t113, .string t114] 42 (0, 0)) (by exact obk (blk_put (obk (blk_put (obk (blk_put (obk (blk_put (obk (blk_put (obk BK116.out) 0 _ rfl)) 1 _ rfl)) 2 _ rfl)) 3 _ rfl)) 4 _ rfl)) k_ hk⟩)); (case aO => exact (by (with_reducible repeat (first | apply Kd.R_alloc | apply Kd.R_drewN | apply Kd.R_drew)); exact Kd.R_mono (Kd.R_far (p := ⟨gb116, 4, none⟩) (Kd.R_far (p := ⟨gb116, 3, none⟩) (Kd.R_far (p := ⟨gb116, 2, none⟩) (Kd.R_far (p := ⟨gb116, 1, none⟩) (Kd.R_far (p := ⟨gb116, 0, none⟩) (Kd.R_mono HO0_2.out (fun k_ hk => (⟨hk, hk.2⟩ : _ ∧ k_ ≠ gb116))) (fun _ hk => hk.2) (.int .i64 t110)) (fun _ hk => hk.2) (.int .i64 t111)) (fun _ hk => hk.2) (.int .i64 t112)) (fun _ hk => hk.2) (.int .i64 t113)) (fun _ hk => hk.2) (.string t114)) (fun _ hk => ⟨hk.1.1, hk.1.2⟩))); (case aS => exact (below_size (by exact bok HB.out))); (case aL => have := LMc46.out; omega); intro v118 w58 ho hb hg hat; rw [← Ny117.out] at ho; have n0_ := mk0 (Kd.R_over' (by exact rok (Kd.R_mono (Kd.R_far (p := ⟨gb116, 4, none⟩) (Kd.R_far (p := ⟨gb116, 3, none⟩) (Kd.R_far (p := ⟨gb116, 2, none⟩) (Kd.R_far (p := ⟨gb116, 1, none⟩) (Kd.R_far (p := ⟨gb116, 0, none⟩) (Kd.R_types HO0_1.out BK116.out (by decide)) (fun _ hk => hk.2) (.int .i64 t110)) (fun _ hk => hk.2) (.int .i64 t111)) (fun _ hk => hk.2) (.int .i64 t112)) (fun _ hk => hk.2) (.int .i64 t113)) (fun _ hk => hk.2) (.string t114)) (fun _ h_ => h_.1))) (Kd.R_typed (by exact rok (Kd.R_mono (Kd.R_far (p := ⟨gb116, 4, none⟩) (Kd.R_far (p := ⟨gb116, 3, none⟩) (Kd.R_far (p := ⟨gb116, 2, none⟩) (Kd.R_far (p := ⟨gb116, 1, none⟩) (Kd.R_far (p := ⟨gb116, 0, none⟩) (Kd.R_mono HO0_2.out (fun k_ hk => (⟨hk, hk.2⟩ : _ ∧ k_ ≠ gb116))) (fun _ hk => hk.2) (.int .i64 t110)) (fun _ hk => hk.2) (.int .i64 t111)) (fun _ hk => hk.2) (.int .i64 t112)) (fun _ hk => hk.2) (.int .i64 t113)) (fun _ hk => hk.2) (.string t114)) (fun _ h_ => h_.1)))) (by decide) hg); have n1_ := mk0 (blk_grown (g := gb104) (o := .cells #[.string a0_0, .slice Ao47 l0_1.length co47, .slice Ao48 l0_2.length co48] 25 (0, 0)) (by exact obf BK104.out) hg (Kd.R_ne HO0_2.out BK104.out (by decide))); have n2_ := mk0 (blk_grown (g := gb105) (o := .cells #[.string (⟨#[]⟩ : ByteArray), .slice none 0 0, .slice none 0 0] 25 (0, 0)) (by exact obf BK105.out) hg (Kd.R_ne HO0_2.out BK105.out (by decide))); have n3_ := mk0 (blk_grown (g := gb116) (o := .cells #[.int .i64 t110, .int .i64 t111, .int .i64 t112, .int .i64 t113, .string t114] 42 (0, 0)) (by exact obk (blk_put (obk (blk_put (obk (blk_put (obk (blk_put (obk (blk_put (obk BK116.out) 0 _ rfl)) 1 _ rfl)) 2 _ rfl)) 3 _ rfl)) 4 _ rfl)) hg (Kd.R_away HO0_2.out (fun _ hk => hk.2))); have n4_ := mk0 (hb); have n5_ := mk0 (Kept.of_grown (S := (fun k_ => P0_1_ k_ ∨ P0_2_ k_)) hg (by repeat (first | (with_reducible first | exact HK.out | apply Kept.alloc | apply Kept.drewN | apply Kept.drew | refine Kept.setCell ?_ (.inr GW104.out) _ | refine Kept.setCell ?_ (.inr GW105.out) _ | refine Kept.setCell ?_ (.inr GW116.out) _) | exact HK.out)) (fun k_ e_ => (HO0_2.out.1 k_ e_).1)); have n6_ := mk0 (ho); clear HO0_1; clear BK104; clear BK105; clear BK116; clear HB; clear HK; clear HO0_2; have HO0_1 := n0_; have BK104 := n1_; have BK105 := n2_; have BK116 := n3_; have HB := n4_; have HK := n5_; have HO119 := n6_; clear n0_ n1_ n2_ n3_ n4_ n5_ n6_; clear ho hb hg hat; obtain ⟨Ao59, co59, eo59⟩ := Kd.R_slice HO119.out; subst eo59; obtain ⟨hcz60_0, hcz60_1, hcz60_2, hfz60_0, hfz60_1, hfz60_2⟩ := blk3 BK104.out; obtain ⟨hcz61_0, hcz61_1, hcz61_2, hfz61_0, hfz61_1, hfz61_2⟩ := blk3 BK105.out))
      refine bodyPost_ret (results_ct rfl _ _ gb105 25 #[.string a0_0, .slice Ao47 l0_1.length co47, .slice Ao59 y117.length co59] (0, 0) _ rfl (by exact obk (blk_put (obk (blk_put (obk (blk_put (obk (blkf (obk BK105.out) NB105_104.out)) 0 _ rfl)) 1 _ rfl)) 2 _ rfl)) Tryd.underlying25 rfl (by kernel_rfl)) rfl ?_
      exact ⟨_, _, by first | rfl | (simp [*, errW_none, errW_some] <;> rfl), by (with_reducible repeat (first | apply Kd.R_alloc | apply Kd.R_drewN | apply Kd.R_drew)); exact Kd.R_mono (Kd.R_far (p := ⟨gb105, 2, none⟩) (Kd.R_far (p := ⟨gb105, 1, none⟩) (Kd.R_far (p := ⟨gb105, 0, none⟩) (Kd.R_far (p := ⟨gb104, 2, none⟩) (Kd.R_types (Kd.R_types HO0_1.out BK104.out (by decide)) BK105.out (by decide)) (fun _ hk => hk.1.2) (.slice Ao59 y117.length co59)) (fun _ hk => hk.2) (.string a0_0)) (fun _ hk => hk.2) (.slice Ao47 l0_1.length co47)) (fun _ hk => hk.2) (.slice Ao59 y117.length co59)) (fun _ hk => hk.1.1), by (with_reducible repeat (first | apply Kd.R_alloc | apply Kd.R_drewN | apply Kd.R_drew)); exact Kd.R_mono (Kd.R_far (p := ⟨gb105, 2, none⟩) (Kd.R_far (p := ⟨gb105, 1, none⟩) (Kd.R_far (p := ⟨gb105, 0, none⟩) (Kd.R_far (p := ⟨gb104, 2, none⟩) (Kd.R_types (Kd.R_types HO119.out BK104.out (by decide)) BK105.out (by decide)) (fun _ hk => hk.1.2) (.slice Ao59 y117.length co59)) (fun _ hk => hk.2) (.string a0_0)) (fun _ hk => hk.2) (.slice Ao47 l0_1.length co47)) (fun _ hk => hk.2) (.slice Ao59 y117.length co59)) (fun _ hk => hk.1.1.1), by exact bok HB.out, by repeat (first | (with_reducible first | exact HK.out | apply Kept.alloc | apply Kept.drewN | apply Kept.drew | refine Kept.setCell ?_ (.inr GW104.out) _ | refine Kept.setCell ?_ (.inr GW105.out) _ | refine Kept.setCell ?_ (.inr GW116.out) _) | exact HK.out)⟩
     ·
      rw [if_neg c46] at H
      exact absurd H (by simp)
   ·
    replace c32 := Bool.eq_false_iff.mpr c32
    subst c32
    have H1 : (some (a0_0, l0_1, l0_2, 2)) = some (r1, r2, r3, r4) := by rw [if_neg (show ¬ (false = true) by decide)] at H; exact H
    clear H
    have H := H1
    clear H1
    simp only [Option.some.injEq, Prod.mk.injEq] at H
    obtain ⟨rfl, rfl, rfl, rfl⟩ := H
    obtain ⟨Ao62, co62, eo62⟩ := Kd.R_slice HO0_1.out
    subst eo62
    obtain ⟨Ao63, co63, eo63⟩ := Kd.R_slice HO0_2.out
    subst eo63
    go_enter Tryd.func21, Tryd.ntmps21
    go_wp2_with (first | ((with_reducible refine gate_dst (N := 3) rfl ?_); refine box_event ?hg (N := 3) ?hd (cs := #[.string a0_0, .slice Ao62 l0_1.length co62, .slice Ao63 l0_2.length co63]) (t := 25) ?hr ?_; (case hd => rfl); (case hg => rfl); (case hr => first | (go_simp; done) | (go_simp; rfl)); intro gb104 hg w64 hbox hb; have n0_ := mk0 (Kd.R_below (by exact rok HO0_1.out) hb); have n1_ := mk0 (Kd.R_below (by exact rok HO0_2.out) hb); have n2_ := mk0 (Kept.below (S := (fun k_ => P0_1_ k_ ∨ P0_2_ k_)) (by repeat (first | (with_reducible first | exact HK.out | apply Kept.alloc | apply Kept.drewN | apply Kept.drew) | exact HK.out)) hb); have n3_ := mk0 (bst HB.out hb); have n4_ := mk0 (hbox); have n5_ := mk0 ((by rw [hg]; exact (by first | exact HK.out.1 | exact (show Kept w _ (fun k_ => P0_1_ k_ ∨ P0_2_ k_) from by repeat (first | (with_reducible first | exact HK.out | apply Kept.alloc | apply Kept.drewN | apply Kept.drew) | exact HK.out)).1) : w.heap.size ≤ gb104)); have n6_ := mk0 ((by rw [hg]; exact (below_size (by exact bok HB.out)) : w0.heap.size ≤ gb104)); clear HO0_1; clear HO0_2; clear HK; clear HB; have HO0_1 := n0_; have HO0_2 := n1_; have HK := n2_; have HB := n3_; have BK104 := n4_; have GW104 := n5_; have GE104 := n6_; clear n0_ n1_ n2_ n3_ n4_ n5_ n6_; clear hb hbox hg) | ((with_reducible refine gate_dst (N := 6) rfl ?_); refine box_event ?hg (N := 6) ?hd (cs := #[.string (⟨#[]⟩ : ByteArray), .slice none 0 0, .slice none 0 0]) (t := 25) ?hr ?_; (case hd => rfl); (case hg => rfl); (case hr => first | (go_simp; done) | (go_simp; rfl)); intro gb105 hg w65 hbox hb; have n0_ := mk0 (Kd.R_below (by exact rok HO0_1.out) hb); have n1_ := mk0 (Kd.R_below (by exact rok HO0_2.out) hb); have n2_ := mk0 (blk_below (obk BK104.out) hb); have n3_ := mk0 (Kept.below (S := (fun k_ => P0_1_ k_ ∨ P0_2_ k_)) (by repeat (first | (with_reducible first | exact HK.out | apply Kept.alloc | apply Kept.drewN | apply Kept.drew | refine Kept.setCell ?_ (.inr GW104.out) _) | exact HK.out)) hb); have n4_ := mk0 (bst HB.out hb); have n5_ := mk0 (hbox); have n6_ := mk0 ((by rw [hg]; exact (by first | exact HK.out.1 | exact (show Kept w _ (fun k_ => P0_1_ k_ ∨ P0_2_ k_) from by repeat (first | (with_reducible first | exact HK.out | apply Kept.alloc | apply Kept.drewN | apply Kept.drew | refine Kept.setCell ?_ (.inr GW104.out) _) | exact HK.out)).1) : w.heap.size ≤ gb105)); have n7_ := mk0 ((by rw [hg]; exact (below_size (by exact bok HB.out)) : w0.heap.size ≤ gb105)); have n8_ := mk0 (nlt hg BK104.out); have n9_ := mk0 (ngt hg BK104.out); clear HO0_1; clear HO0_2; clear BK104; clear HK; clear HB; have HO0_1 := n0_; have HO0_2 := n1_; have BK104 := n2_; have HK := n3_; have HB := n4_; have BK105 := n5_; have GW105 := n6_; have GE105 := n7_; have NB104_105 := n8_; have NB105_104 := n9_; clear n0_ n1_ n2_ n3_ n4_ n5_ n6_ n7_ n8_ n9_; clear hb hbox hg) | ((with_reducible refine gate_callee (f := 38) rfl ?_); refine goesL_ (some 17) rfl rfl Tryd.func38 (by kernel_rfl) rfl #[.string a2, .string (⟨#[32]⟩ : ByteArray)] rfl (by (try simp only [List.map_toArray, List.map_cons, List.map_nil]); first | done | rfl | (simp only [List.length_drop, List.length_take]; rfl)) ?_; (with_reducible refine (strings_Cut.calls a2 (⟨#[32]⟩ : ByteArray) t106 t107 t108 _ A4.out).mono ?_); rintro e w' ⟨rfl, ⟨nd, rfl⟩⟩; refine ⟨_, rfl, ?_⟩; (try (rw [drewN_self w65]; generalize hq_ : World.drewN w65 _ = w65; have n0_ : Aside0 (Kd.R k40 40 w65 w0.heap.size (fun k_ => ((P0_1_ k_ ∨ P0_2_ k_) ∨ w.heap.size ≤ k_)) (.slice Ao62 l0_1.length co62) l0_1) := ⟨by rw [← hq_]; exact (by exact rok HO0_1.out)⟩; have n1_ : Aside0 (Kd.R k42 42 w65 w0.heap.size (fun k_ => ((P0_1_ k_ ∨ P0_2_ k_) ∨ w.heap.size ≤ k_)) (.slice Ao63 l0_2.length co63) l0_2) := ⟨by rw [← hq_]; exact (by exact rok HO0_2.out)⟩; have n2_ : Aside0 (w65.heap[gb104]? = some (.cells #[.string a0_0, .slice Ao62 l0_1.length co62, .slice Ao63 l0_2.length co63] 25 (0, 0))) := ⟨by rw [← hq_]; exact (by exact obk BK104.out)⟩; have n3_ : Aside0 (w65.heap[gb105]? = some (.cells #[.string (⟨#[]⟩ : ByteArray), .slice none 0 0, .slice none 0 0] 25 (0, 0))) := ⟨by rw [← hq_]; exact (by exact obk BK105.out)⟩; have n4_ : Aside0 (Kept w w65 (fun k_ => P0_1_ k_ ∨ P0_2_ k_)) := ⟨by rw [← hq_]; exact (by repeat (first | (with_reducible first | exact HK.out | apply Kept.alloc | apply Kept.drewN | apply Kept.drew | refine Kept.setCell ?_ (.inr GW104.out) _ | refine Kept.setCell ?_ (.inr GW105.out) _) | exact HK.out))⟩; have n5_ : Aside0 (Below w0.heap.size w0 w65) := ⟨by rw [← hq_]; exact (by exact bok HB.out)⟩; clear HO0_1 HO0_2 BK104 BK105 HK HB hq_; have HO0_1 := n0_; have HO0_2 := n1_; have BK104 := n2_; have BK105 := n3_; have HK := n4_; have HB := n5_; clear n0_ n1_ n2_ n3_ n4_ n5_))) | ((with_reducible refine gate_callee (f := 40) rfl ?_); refine goesL_ (some 71) rfl rfl Tryd.func40 (by kernel_rfl) rfl #[.string t107] rfl (by (try simp only [List.map_toArray, List.map_cons, List.map_nil]); first | done | rfl | (simp only [List.length_drop, List.length_take]; rfl)) ?_; (with_reducible refine (def_flow.calls k t107 t110 t111 t112 t113 t114 false _ A31.out).mono ?_); rintro e w66 ⟨rfl, hb⟩; refine ⟨_, rfl, ?_⟩; have n0_ := mk0 (Kd.R_below (by exact rok HO0_1.out) hb); have n1_ := mk0 (Kd.R_below (by exact rok HO0_2.out) hb); have n2_ := mk0 (blk_below (obk BK104.out) hb); have n3_ := mk0 (blk_below (obk BK105.out) hb); have n4_ := mk0 (Kept.below (S := (fun k_ => P0_1_ k_ ∨ P0_2_ k_)) (by repeat (first | (with_reducible first | exact HK.out | apply Kept.alloc | apply Kept.drewN | apply Kept.drew | refine Kept.setCell ?_ (.inr GW104.out) _ | refine Kept.setCell ?_ (.inr GW105.out) _) | exact HK.out)) hb); have n5_ := mk0 (bst HB.out hb); clear HO0_1; clear HO0_2; clear BK104; clear BK105; clear HK; clear HB; have HO0_1 := n0_; have HO0_2 := n1_; have BK104 := n2_; have BK105 := n3_; have HK := n4_; have HB := n5_; clear n0_ n1_ n2_ n3_ n4_ n5_; (try clear hb)) | ((with_reducible refine gate_dst (N := 11) rfl ?_); refine box_event ?hg (N := 11) ?hd (cs := #[.int .i64 0, .int .i64 0, .int .i64 0, .int .i64 0, .string (⟨#[]⟩ : ByteArray)]) (t := 42) ?hr ?_; (case hd => rfl); (case hg => rfl); (case hr => first | (go_simp; done) | (go_simp; rfl)); intro gb116 hg w67 hbox hb; have n0_ := mk0 (Kd.R_below (by exact rok HO0_1.out) hb); have n1_ := mk0 (Kd.R_below (Kd.R_elderB (by exact rok HO0_2.out) gb116 (Nat.le_of_eq hg.symm)) hb); have n2_ := mk0 (blk_below (obk BK104.out) hb); have n3_ := mk0 (blk_below (obk BK105.out) hb); have n4_ := mk0 (Kept.below (S := (fun k_ => P0_1_ k_ ∨ P0_2_ k_)) (by repeat (first | (with_reducible first | exact HK.out | apply Kept.alloc | apply Kept.drewN | apply Kept.drew | refine Kept.setCell ?_ (.inr GW104.out) _ | refine Kept.setCell ?_ (.inr GW105.out) _) | exact HK.out)) hb); have n5_ := mk0 (bst HB.out hb); have n6_ := mk0 (hbox); have n7_ := mk0 ((by rw [hg]; exact (by first | exact HK.out.1 | exact (show Kept w _ (fun k_ => P0_1_ k_ ∨ P0_2_ k_) from by repeat (first | (with_reducible first | exact HK.out | apply Kept.alloc | apply Kept.drewN | apply Kept.drew | refine Kept.setCell ?_ (.inr GW104.out) _ | refine Kept.setCell ?_ (.inr GW105.out) _) | exact HK.out)).1) : w.heap.size ≤ gb116)); have n8_ := mk0 ((by rw [hg]; exact (below_size (by exact bok HB.out)) : w0.heap.size ≤ gb116)); have n9_ := mk0 (nlt hg BK104.out); have n10_ := mk0 (ngt hg BK104.out); have n11_ := mk0 (nlt hg BK105.out); have n12_ := mk0 (ngt hg BK105.out); clear HO0_1; clear HO0_2; clear BK104; clear BK105; clear HK; clear HB; have HO0_1 := n0_; have HO0_2 := n1_; have BK104 := n2_; have BK105 := n3_; have HK := n4_; have HB := n5_; have BK116 := n6_; have GW116 := n7_; have GE116 := n8_; have NB104_116 := n9_; have NB116_104 := n10_; have NB105_116 := n11_; have NB116_105 := n12_; clear n0_ n1_ n2_ n3_ n4_ n5_ n6_ n7_ n8_ n9_ n10_ n11_ n12_; clear hb hbox hg; have hnb68 := NB116_104.out; have hnc68 := NB104_116.out; have hnb69 := NB116_105.out; have hnc69 := NB105_116.out; obtain ⟨hcz70_0, hcz70_1, hcz70_2, hcz70_3, hcz70_4, hfz70_0, hfz70_1, hfz70_2, hfz70_3, hfz70_4⟩ := blk5 BK116.out; have hnb71 := NB104_105.out; have hnc71 := NB105_104.out; obtain ⟨hcz72_0, hcz72_1, hcz72_2, hfz72_0, hfz72_1, hfz72_2⟩ := blk3 BK104.out; obtain ⟨hcz73_0, hcz73_1, hcz73_2, hfz73_0, hfz73_1, hfz73_2⟩ := blk3 BK105.out))
    refine bodyPost_ret (results_ct rfl _ _ gb105 25 #[.string a0_0, .slice Ao62 l0_1.length co62, .slice Ao63 l0_2.length co63] (0, 0) _ rfl (by exact obk (blk_put (obk (blk_put (obk (blk_put (obk (blkf (obk (blkf (obk (blkf (obk (blkf (obk (blkf (obk BK105.out) NB105_116.out)) NB105_116.out)) NB105_116.out)) NB105_116.out)) NB105_116.out)) 0 _ rfl)) 1 _ rfl)) 2 _ rfl)) Tryd.underlying25 rfl (by kernel_rfl)) rfl ?_
    exact ⟨_, _, by first | rfl | (simp [*, errW_none, errW_some] <;> rfl), by (with_reducible repeat (first | apply Kd.R_alloc | apply Kd.R_drewN | apply Kd.R_drew)); exact Kd.R_mono (Kd.R_far (p := ⟨gb105, 2, none⟩) (Kd.R_far (p := ⟨gb105, 1, none⟩) (Kd.R_far (p := ⟨gb105, 0, none⟩) (Kd.R_far (p := ⟨gb116, 4, none⟩) (Kd.R_far (p := ⟨gb116, 3, none⟩) (Kd.R_far (p := ⟨gb116, 2, none⟩) (Kd.R_far (p := ⟨gb116, 1, none⟩) (Kd.R_far (p := ⟨gb116, 0, none⟩) (Kd.R_types (Kd.R_types HO0_1.out BK116.out (by decide)) BK105.out (by decide)) (fun _ hk => hk.1.2) (.int .i64 t110)) (fun _ hk => hk.1.2) (.int .i64 t111)) (fun _ hk => hk.1.2) (.int .i64 t112)) (fun _ hk => hk.1.2) (.int .i64 t113)) (fun _ hk => hk.1.2) (.string t114)) (fun _ hk => hk.2) (.string a0_0)) (fun _ hk => hk.2) (.slice Ao62 l0_1.length co62)) (fun _ hk => hk.2) (.slice Ao63 l0_2.length co63)) (fun _ hk => hk.1.1), by (with_reducible repeat (first | apply Kd.R_alloc | apply Kd.R_drewN | apply Kd.R_drew)); exact Kd.R_mono (Kd.R_far (p := ⟨gb105, 2, none⟩) (Kd.R_far (p := ⟨gb105, 1, none⟩) (Kd.R_far (p := ⟨gb105, 0, none⟩) (Kd.R_far (p := ⟨gb116, 4, none⟩) (Kd.R_far (p := ⟨gb116, 3, none⟩) (Kd.R_far (p := ⟨gb116, 2, none⟩) (Kd.R_far (p := ⟨gb116, 1, none⟩) (Kd.R_far (p := ⟨gb116, 0, none⟩) (Kd.R_types (Kd.R_mono HO0_2.out (fun k_ hk => (⟨hk, hk.2⟩ : _ ∧ k_ ≠ gb116))) BK105.out (by decide)) (fun _ hk => hk.1.2) (.int .i64 t110)) (fun _ hk => hk.1.2) (.int .i64 t111)) (fun _ hk => hk.1.2) (.int .i64 t112)) (fun _ hk => hk.1.2) (.int .i64 t113)) (fun _ hk => hk.1.2) (.string t114)) (fun _ hk => hk.2) (.string a0_0)) (fun _ hk => hk.2) (.slice Ao62 l0_1.length co62)) (fun _ hk => hk.2) (.slice Ao63 l0_2.length co63)) (fun _ hk => hk.1.1.1), by exact bok HB.out, by repeat (first | (with_reducible first | exact HK.out | apply Kept.alloc | apply Kept.drewN | apply Kept.drew | refine Kept.setCell ?_ (.inr GW104.out) _ | refine Kept.setCell ?_ (.inr GW105.out) _ | refine Kept.setCell ?_ (.inr GW116.out) _) | exact HK.out)⟩
  ·
   rw [if_neg c30] at H
   have c30b0 : (t106.toList == ([102, 108, 111, 119] : List UInt8)) = false := beq_eq_false_iff_ne.mpr c30
   have c30b1 : (t106.toList != ([102, 108, 111, 119] : List UInt8)) = true := bne_iff_ne.mpr c30
   replace H := Option.bind_eq_some_iff.mp H
   obtain ⟨⟨t120, t121, t122, t123, t124, t125⟩, A740, H⟩ := H
   replace H : (if t125 = true then (def_put.j0 k (t120 == 0) a0_0 l0_1 l0_2 t120 t121 t122 t123 t124) else (def_put.j0 k true a0_0 l0_1 l0_2 t120 t121 t122 t123 t124)) = some (r1, r2, r3, r4) := H
   have A74 := mk0 A740
   clear A740
   have HC75 := mk0 H
   clear H
   obtain ⟨Ao76, co76, eo76⟩ := Kd.R_slice HO0_1.out
   subst eo76
   obtain ⟨Ao77, co77, eo77⟩ := Kd.R_slice HO0_2.out
   subst eo77
   go_enter Tryd.func21, Tryd.ntmps21
   go_upto_region 3 with (first | ((with_reducible refine gate_dst (N := 3) rfl ?_); refine box_event ?hg (N := 3) ?hd (cs := #[.string a0_0, .slice Ao76 l0_1.length co76, .slice Ao77 l0_2.length co77]) (t := 25) ?hr ?_; (case hd => rfl); (case hg => rfl); (case hr => first | (go_simp; done) | (go_simp; rfl)); intro gb104 hg w78 hbox hb; have n0_ := mk0 (Kd.R_below (by exact rok HO0_1.out) hb); have n1_ := mk0 (Kd.R_below (by exact rok HO0_2.out) hb); have n2_ := mk0 (Kept.below (S := (fun k_ => P0_1_ k_ ∨ P0_2_ k_)) (by repeat (first | (with_reducible first | exact HK.out | apply Kept.alloc | apply Kept.drewN | apply Kept.drew) | exact HK.out)) hb); have n3_ := mk0 (bst HB.out hb); have n4_ := mk0 (hbox); have n5_ := mk0 ((by rw [hg]; exact (by first | exact HK.out.1 | exact (show Kept w _ (fun k_ => P0_1_ k_ ∨ P0_2_ k_) from by repeat (first | (with_reducible first | exact HK.out | apply Kept.alloc | apply Kept.drewN | apply Kept.drew) | exact HK.out)).1) : w.heap.size ≤ gb104)); have n6_ := mk0 ((by rw [hg]; exact (below_size (by exact bok HB.out)) : w0.heap.size ≤ gb104)); clear HO0_1; clear HO0_2; clear HK; clear HB; have HO0_1 := n0_; have HO0_2 := n1_; have HK := n2_; have HB := n3_; have BK104 := n4_; have GW104 := n5_; have GE104 := n6_; clear n0_ n1_ n2_ n3_ n4_ n5_ n6_; clear hb hbox hg) | ((with_reducible refine gate_dst (N := 6) rfl ?_); refine box_event ?hg (N := 6) ?hd (cs := #[.string (⟨#[]⟩ : ByteArray), .slice none 0 0, .slice none 0 0]) (t := 25) ?hr ?_; (case hd => rfl); (case hg => rfl); (case hr => first | (go_simp; done) | (go_simp; rfl)); intro gb105 hg w79 hbox hb; have n0_ := mk0 (Kd.R_below (by exact rok HO0_1.out) hb); have n1_ := mk0 (Kd.R_below (by exact rok HO0_2.out) hb); have n2_ := mk0 (blk_below (obk BK104.out) hb); have n3_ := mk0 (Kept.below (S := (fun k_ => P0_1_ k_ ∨ P0_2_ k_)) (by repeat (first | (with_reducible first | exact HK.out | apply Kept.alloc | apply Kept.drewN | apply Kept.drew | refine Kept.setCell ?_ (.inr GW104.out) _) | exact HK.out)) hb); have n4_ := mk0 (bst HB.out hb); have n5_ := mk0 (hbox); have n6_ := mk0 ((by rw [hg]; exact (by first | exact HK.out.1 | exact (show Kept w _ (fun k_ => P0_1_ k_ ∨ P0_2_ k_) from by repeat (first | (with_reducible first | exact HK.out | apply Kept.alloc | apply Kept.drewN | apply Kept.drew | refine Kept.setCell ?_ (.inr GW104.out) _) | exact HK.out)).1) : w.heap.size ≤ gb105)); have n7_ := mk0 ((by rw [hg]; exact (below_size (by exact bok HB.out)) : w0.heap.size ≤ gb105)); have n8_ := mk0 (nlt hg BK104.out); have n9_ := mk0 (ngt hg BK104.out); clear HO0_1; clear HO0_2; clear BK104; clear HK; clear HB; have HO0_1 := n0_; have HO0_2 := n1_; have BK104 := n2_; have HK := n3_; have HB := n4_; have BK105 := n5_; have GW105 := n6_; have GE105 := n7_; have NB104_105 := n8_; have NB105_104 := n9_; clear n0_ n1_ n2_ n3_ n4_ n5_ n6_ n7_ n8_ n9_; clear hb hbox hg) | ((with_reducible refine gate_callee (f := 38) rfl ?_); refine goesL_ (some 17) rfl rfl Tryd.func38 (by kernel_rfl) rfl #[.string a2, .string (⟨#[32]⟩ : ByteArray)] rfl (by (try simp only [List.map_toArray, List.map_cons, List.map_nil]); first | done | rfl | (simp only [List.length_drop, List.length_take]; rfl)) ?_; (with_reducible refine (strings_Cut.calls a2 (⟨#[32]⟩ : ByteArray) t106 t107 t108 _ A4.out).mono ?_); rintro e w' ⟨rfl, ⟨nd, rfl⟩⟩; refine ⟨_, rfl, ?_⟩; (try (rw [drewN_self w79]; generalize hq_ : World.drewN w79 _ = w79; have n0_ : Aside0 (Kd.R k40 40 w79 w0.heap.size (fun k_ => ((P0_1_ k_ ∨ P0_2_ k_) ∨ w.heap.size ≤ k_)) (.slice Ao76 l0_1.length co76) l0_1) := ⟨by rw [← hq_]; exact (by exact rok HO0_1.out)⟩; have n1_ : Aside0 (Kd.R k42 42 w79 w0.heap.size (fun k_ => ((P0_1_ k_ ∨ P0_2_ k_) ∨ w.heap.size ≤ k_)) (.slice Ao77 l0_2.length co77) l0_2) := ⟨by rw [← hq_]; exact (by exact rok HO0_2.out)⟩; have n2_ : Aside0 (w79.heap[gb104]? = some (.cells #[.string a0_0, .slice Ao76 l0_1.length co76, .slice Ao77 l0_2.length co77] 25 (0, 0))) := ⟨by rw [← hq_]; exact (by exact obk BK104.out)⟩; have n3_ : Aside0 (w79.heap[gb105]? = some (.cells #[.string (⟨#[]⟩ : ByteArray), .slice none 0 0, .slice none 0 0] 25 (0, 0))) := ⟨by rw [← hq_]; exact (by exact obk BK105.out)⟩; have n4_ : Aside0 (Kept w w79 (fun k_ => P0_1_ k_ ∨ P0_2_ k_)) := ⟨by rw [← hq_]; exact (by repeat (first | (with_reducible first | exact HK.out | apply Kept.alloc | apply Kept.drewN | apply Kept.drew | refine Kept.setCell ?_ (.inr GW104.out) _ | refine Kept.setCell ?_ (.inr GW105.out) _) | exact HK.out))⟩; have n5_ : Aside0 (Below w0.heap.size w0 w79) := ⟨by rw [← hq_]; exact (by exact bok HB.out)⟩; clear HO0_1 HO0_2 BK104 BK105 HK HB hq_; have HO0_1 := n0_; have HO0_2 := n1_; have BK104 := n2_; have BK105 := n3_; have HK := n4_; have HB := n5_; clear n0_ n1_ n2_ n3_ n4_ n5_))) | ((with_reducible refine gate_callee (f := 41) rfl ?_); refine goesL_ (some 23) rfl rfl Tryd.func41 (by kernel_rfl) rfl #[.string a2] rfl (by (try simp only [List.map_toArray, List.map_cons, List.map_nil]); first | done | rfl | (simp only [List.length_drop, List.length_take]; rfl)) ?_; (with_reducible refine (def_node.calls k a2 t120 t121 t122 t123 t124 t125 _ A74.out).mono ?_); rintro e w80 ⟨rfl, hb⟩; refine ⟨_, rfl, ?_⟩; have n0_ := mk0 (Kd.R_below (by exact rok HO0_1.out) hb); have n1_ := mk0 (Kd.R_below (by exact rok HO0_2.out) hb); have n2_ := mk0 (blk_below (obk BK104.out) hb); have n3_ := mk0 (blk_below (obk BK105.out) hb); have n4_ := mk0 (Kept.below (S := (fun k_ => P0_1_ k_ ∨ P0_2_ k_)) (by repeat (first | (with_reducible first | exact HK.out | apply Kept.alloc | apply Kept.drewN | apply Kept.drew | refine Kept.setCell ?_ (.inr GW104.out) _ | refine Kept.setCell ?_ (.inr GW105.out) _) | exact HK.out)) hb); have n5_ := mk0 (bst HB.out hb); clear HO0_1; clear HO0_2; clear BK104; clear BK105; clear HK; clear HB; have HO0_1 := n0_; have HO0_2 := n1_; have BK104 := n2_; have BK105 := n3_; have HK := n4_; have HB := n5_; clear n0_ n1_ n2_ n3_ n4_ n5_; (try clear hb)) | ((with_reducible refine gate_dst (N := 13) rfl ?_); refine box_event ?hg (N := 13) ?hd (cs := #[.int .i64 0, .int .i64 0, .int .i64 0, .int .i64 0, .string (⟨#[]⟩ : ByteArray)]) (t := 40) ?hr ?_; (case hd => rfl); (case hg => rfl); (case hr => first | (go_simp; done) | (go_simp; rfl)); intro gb126 hg w81 hbox hb; have n0_ := mk0 (Kd.R_below (Kd.R_elderB (by exact rok HO0_1.out) gb126 (Nat.le_of_eq hg.symm)) hb); have n1_ := mk0 (Kd.R_below (by exact rok HO0_2.out) hb); have n2_ := mk0 (blk_below (obk BK104.out) hb); have n3_ := mk0 (blk_below (obk BK105.out) hb); have n4_ := mk0 (Kept.below (S := (fun k_ => P0_1_ k_ ∨ P0_2_ k_)) (by repeat (first | (with_reducible first | exact HK.out | apply Kept.alloc | apply Kept.drewN | apply Kept.drew | refine Kept.setCell ?_ (.inr GW104.out) _ | refine Kept.setCell ?_ (.inr GW105.out) _) | exact HK.out)) hb); have n5_ := mk0 (bst HB.out hb); have n6_ := mk0 (hbox); have n7_ := mk0 ((by rw [hg]; exact (by first | exact HK.out.1 | exact (show Kept w _ (fun k_ => P0_1_ k_ ∨ P0_2_ k_) from by repeat (first | (with_reducible first | exact HK.out | apply Kept.alloc | apply Kept.drewN | apply Kept.drew | refine Kept.setCell ?_ (.inr GW104.out) _ | refine Kept.setCell ?_ (.inr GW105.out) _) | exact HK.out)).1) : w.heap.size ≤ gb126)); have n8_ := mk0 ((by rw [hg]; exact (below_size (by exact bok HB.out)) : w0.heap.size ≤ gb126)); have n9_ := mk0 (nlt hg BK104.out); have n10_ := mk0 (ngt hg BK104.out); have n11_ := mk0 (nlt hg BK105.out); have n12_ := mk0 (ngt hg BK105.out); clear HO0_1; clear HO0_2; clear BK104; clear BK105; clear HK; clear HB; have HO0_1 := n0_; have HO0_2 := n1_; have BK104 := n2_; have BK105 := n3_; have HK := n4_; have HB := n5_; have BK126 := n6_; have GW126 := n7_; have GE126 := n8_; have NB104_126 := n9_; have NB126_104 := n10_; have NB105_126 := n11_; have NB126_105 := n12_; clear n0_ n1_ n2_ n3_ n4_ n5_ n6_ n7_ n8_ n9_ n10_ n11_ n12_; clear hb hbox hg; have hnb82 := NB126_104.out; have hnc82 := NB104_126.out; have hnb83 := NB126_105.out; have hnc83 := NB105_126.out; obtain ⟨hcz84_0, hcz84_1, hcz84_2, hcz84_3, hcz84_4, hfz84_0, hfz84_1, hfz84_2, hfz84_3, hfz84_4⟩ := blk5 BK126.out))
   (try simp only [Act.put, List.setIfInBounds_toArray, List.set_cons_zero, List.set_cons_succ])
   go_cut [26] (fun v26 wc => ∃ (kq : Nat) (x26_74 : Bool), v26 = .bool x26_74 ∧ Aside0 (def_put.j0 kq x26_74 a0_0 l0_1 l0_2 t120 t121 t122 t123 t124 = some (r1, r2, r3, r4)) ∧ Aside0 (kq ≤ k) ∧ Aside0 (Kd.R k40 40 wc w0.heap.size (fun k_ => ((P0_1_ k_ ∨ P0_2_ k_) ∨ w.heap.size ≤ k_) ∧ k_ ≠ gb126) (.slice Ao76 l0_1.length co76) l0_1) ∧ Aside0 (Kd.R k42 42 wc w0.heap.size (fun k_ => ((P0_1_ k_ ∨ P0_2_ k_) ∨ w.heap.size ≤ k_)) (.slice Ao77 l0_2.length co77) l0_2) ∧ Aside0 (wc.heap[gb104]? = some (.cells #[.string a0_0, (.slice Ao76 l0_1.length co76), (.slice Ao77 l0_2.length co77)] 25 (0, 0))) ∧ Aside0 (wc.heap[gb105]? = some (.cells #[.string (⟨#[]⟩ : ByteArray), (.slice none 0 0), (.slice none 0 0)] 25 (0, 0))) ∧ Aside0 (wc.heap[gb126]? = some (.cells #[.int .i64 t120, .int .i64 t121, .int .i64 t122, .int .i64 t123, .string t124] 40 (0, 0))) ∧ Aside0 (Kept w wc (fun k_ => P0_1_ k_ ∨ P0_2_ k_)) ∧ Aside0 (Below w0.heap.size w0 wc))
   case first =>
    have H := HC75.out
    clear HC75
    by_cases c85 : t125 = true
    ·
     subst c85
     have H1 : (def_put.j0 k (t120 == 0) a0_0 l0_1 l0_2 t120 t121 t122 t123 t124) = some (r1, r2, r3, r4) := by rw [if_pos rfl] at H; exact H
     clear H
     have H := H1
     clear H1
     have H' := mk0 H
     clear H
     have hnb86 := NB126_104.out
     have hnc86 := NB104_126.out
     have hnb87 := NB126_105.out
     have hnc87 := NB105_126.out
     obtain ⟨hcz88_0, hcz88_1, hcz88_2, hcz88_3, hcz88_4, hfz88_0, hfz88_1, hfz88_2, hfz88_3, hfz88_4⟩ := blk5 BK126.out
     go_wp2
     go_meet
     case rel => exact ⟨_, ((t120 == 0)), (by first | rfl | (simp; done) | (simp [*]; done)), H', ⟨by first | omega | exact Nat.le_refl _⟩, ⟨by (with_reducible repeat (first | apply Kd.R_alloc | apply Kd.R_drewN | apply Kd.R_drew)); exact Kd.R_mono (rfar 4 (rfar 3 (rfar 2 (rfar 1 (rfar 0 (Kd.R_mono HO0_1.out (fun k_ hk => (⟨hk, hk.2⟩ : _ ∧ k_ ≠ gb126))) (.int .i64 t120)) (.int .i64 t121)) (.int .i64 t122)) (.int .i64 t123)) (.string t124)) (fun _ hk => ⟨hk.1.1, hk.1.2⟩)⟩, ⟨by (with_reducible repeat (first | apply Kd.R_alloc | apply Kd.R_drewN | apply Kd.R_drew)); exact Kd.R_mono (rfar 4 (rfar 3 (rfar 2 (rfar 1 (rfar 0 (Kd.R_types HO0_2.out BK126.out (by decide)) (.int .i64 t120)) (.int .i64 t121)) (.int .i64 t122)) (.int .i64 t123)) (.string t124)) (fun _ hk => hk.1)⟩, ⟨by refine obk ?_; refine blk_far ?_ NB104_126.out _; refine obk ?_; refine blk_far ?_ NB104_126.out _; refine obk ?_; refine blk_far ?_ NB104_126.out _; refine obk ?_; refine blk_far ?_ NB104_126.out _; refine obk ?_; refine blk_far ?_ NB104_126.out _; exact obk BK104.out⟩, ⟨by refine obk ?_; refine blk_far ?_ NB105_126.out _; refine obk ?_; refine blk_far ?_ NB105_126.out _; refine obk ?_; refine blk_far ?_ NB105_126.out _; refine obk ?_; refine blk_far ?_ NB105_126.out _; refine obk ?_; refine blk_far ?_ NB105_126.out _; exact obk BK105.out⟩, ⟨by refine obk ?_; refine blk_put (cs := #[.int .i64 t120, .int .i64 t121, .int .i64 t122, .int .i64 t123, .string (⟨#[]⟩ : ByteArray)]) ?_ 4 _ rfl; refine obk ?_; refine blk_put (cs := #[.int .i64 t120, .int .i64 t121, .int .i64 t122, .int .i64 0, .string (⟨#[]⟩ : ByteArray)]) ?_ 3 _ rfl; refine obk ?_; refine blk_put (cs := #[.int .i64 t120, .int .i64 t121, .int .i64 0, .int .i64 0, .string (⟨#[]⟩ : ByteArray)]) ?_ 2 _ rfl; refine obk ?_; refine blk_put (cs := #[.int .i64 t120, .int .i64 0, .int .i64 0, .int .i64 0, .string (⟨#[]⟩ : ByteArray)]) ?_ 1 _ rfl; refine obk ?_; refine blk_put (cs := #[.int .i64 0, .int .i64 0, .int .i64 0, .int .i64 0, .string (⟨#[]⟩ : ByteArray)]) ?_ 0 _ rfl; exact obk BK126.out⟩, ⟨by repeat (first | (with_reducible first | exact HK.out | apply Kept.alloc | apply Kept.drewN | apply Kept.drew | refine Kept.setCell ?_ (.inr GW104.out) _ | refine Kept.setCell ?_ (.inr GW105.out) _ | refine Kept.setCell ?_ (.inr GW126.out) _) | exact HK.out)⟩, ⟨by exact bok HB.out⟩⟩
    ·
     replace c85 := Bool.eq_false_iff.mpr c85
     subst c85
     have H1 : (def_put.j0 k true a0_0 l0_1 l0_2 t120 t121 t122 t123 t124) = some (r1, r2, r3, r4) := by rw [if_neg (show ¬ (false = true) by decide)] at H; exact H
     clear H
     have H := H1
     clear H1
     have H' := mk0 H
     clear H
     go_wp2
     go_meet
     case rel => exact ⟨_, (true), (by first | rfl | (simp; done) | (simp [*]; done)), H', ⟨by first | omega | exact Nat.le_refl _⟩, ⟨by (with_reducible repeat (first | apply Kd.R_alloc | apply Kd.R_drewN | apply Kd.R_drew)); exact Kd.R_mono (rfar 4 (rfar 3 (rfar 2 (rfar 1 (rfar 0 (Kd.R_mono HO0_1.out (fun k_ hk => (⟨hk, hk.2⟩ : _ ∧ k_ ≠ gb126))) (.int .i64 t120)) (.int .i64 t121)) (.int .i64 t122)) (.int .i64 t123)) (.string t124)) (fun _ hk => ⟨hk.1.1, hk.1.2⟩)⟩, ⟨by (with_reducible repeat (first | apply Kd.R_alloc | apply Kd.R_drewN | apply Kd.R_drew)); exact Kd.R_mono (rfar 4 (rfar 3 (rfar 2 (rfar 1 (rfar 0 (Kd.R_types HO0_2.out BK126.out (by decide)) (.int .i64 t120)) (.int .i64 t121)) (.int .i64 t122)) (.int .i64 t123)) (.string t124)) (fun _ hk => hk.1)⟩, ⟨by refine obk ?_; refine blk_far ?_ NB104_126.out _; refine obk ?_; refine blk_far ?_ NB104_126.out _; refine obk ?_; refine blk_far ?_ NB104_126.out _; refine obk ?_; refine blk_far ?_ NB104_126.out _; refine obk ?_; refine blk_far ?_ NB104_126.out _; exact obk BK104.out⟩, ⟨by refine obk ?_; refine blk_far ?_ NB105_126.out _; refine obk ?_; refine blk_far ?_ NB105_126.out _; refine obk ?_; refine blk_far ?_ NB105_126.out _; refine obk ?_; refine blk_far ?_ NB105_126.out _; refine obk ?_; refine blk_far ?_ NB105_126.out _; exact obk BK105.out⟩, ⟨by refine obk ?_; refine blk_put (cs := #[.int .i64 t120, .int .i64 t121, .int .i64 t122, .int .i64 t123, .string (⟨#[]⟩ : ByteArray)]) ?_ 4 _ rfl; refine obk ?_; refine blk_put (cs := #[.int .i64 t120, .int .i64 t121, .int .i64 t122, .int .i64 0, .string (⟨#[]⟩ : ByteArray)]) ?_ 3 _ rfl; refine obk ?_; refine blk_put (cs := #[.int .i64 t120, .int .i64 t121, .int .i64 0, .int .i64 0, .string (⟨#[]⟩ : ByteArray)]) ?_ 2 _ rfl; refine obk ?_; refine blk_put (cs := #[.int .i64 t120, .int .i64 0, .int .i64 0, .int .i64 0, .string (⟨#[]⟩ : ByteArray)]) ?_ 1 _ rfl; refine obk ?_; refine blk_put (cs := #[.int .i64 0, .int .i64 0, .int .i64 0, .int .i64 0, .string (⟨#[]⟩ : ByteArray)]) ?_ 0 _ rfl; exact obk BK126.out⟩, ⟨by repeat (first | (with_reducible first | exact HK.out | apply Kept.alloc | apply Kept.drewN | apply Kept.drew | refine Kept.setCell ?_ (.inr GW104.out) _ | refine Kept.setCell ?_ (.inr GW105.out) _ | refine Kept.setCell ?_ (.inr GW126.out) _) | exact HK.out)⟩, ⟨by exact bok HB.out⟩⟩
   case rest =>
    clear HC75
    try clear c1
    try clear c2
    try clear p2
    try clear c3
    try clear c4
    try clear c5
    try clear c5b0
    try clear c5b1
    try clear c6
    try clear c6b0
    try clear c6b1
    try clear c7
    try clear c8
    try clear c13
    try clear c20
    try clear c21
    try clear c27
    try clear c30
    try clear c30b0
    try clear c30b1
    try clear c32
    try clear c33
    try clear c33b0
    try clear c33b1
    try clear c38
    try clear c40
    try clear c41
    try clear c43
    try clear c46
    try clear c53
    try clear c54
    try clear c56
    try clear c68
    try clear c69
    try clear c71
    try clear c82
    try clear c83
    try clear c85
    try clear c86
    try clear c87
    obtain ⟨kq, x26_74, rfl, HA, HJ74, HO_105001, HO_105002, BK104, BK105, BK126, HK, HB⟩ := hcut
    cases kq with
    | zero => exact absurd HA.out (by simp [def_put.j0])
    | succ kj74 =>
     have H := HA.out
     clear HA
     simp only [def_put.j0] at H
     by_cases c89 : x26_74 = true
     ·
      subst c89
      have H1 : (some (a0_0, l0_1, l0_2, 2)) = some (r1, r2, r3, r4) := by rw [if_pos rfl] at H; exact H
      clear H
      have H := H1
      clear H1
      simp only [Option.some.injEq, Prod.mk.injEq] at H
      obtain ⟨rfl, rfl, rfl, rfl⟩ := H
      have hnb90 := NB104_105.out
      have hnc90 := NB105_104.out
      have hnb91 := NB104_126.out
      have hnc91 := NB126_104.out
      obtain ⟨hcz92_0, hcz92_1, hcz92_2, hfz92_0, hfz92_1, hfz92_2⟩ := blk3 BK104.out
      have hnb93 := NB105_126.out
      have hnc93 := NB126_105.out
      obtain ⟨hcz94_0, hcz94_1, hcz94_2, hfz94_0, hfz94_1, hfz94_2⟩ := blk3 BK105.out
      go_wp2
      refine bodyPost_ret (results_ct rfl _ _ gb105 25 #[.string a0_0, .slice Ao76 l0_1.length co76, .slice Ao77 l0_2.length co77] (0, 0) _ rfl (by exact obk (blk_put (obk (blk_put (obk (blk_put (obk BK105.out) 0 _ rfl)) 1 _ rfl)) 2 _ rfl)) Tryd.underlying25 rfl (by kernel_rfl)) rfl ?_
      exact ⟨_, _, by first | rfl | (simp [*, errW_none, errW_some] <;> rfl), by (with_reducible repeat (first | apply Kd.R_alloc | apply Kd.R_drewN | apply Kd.R_drew)); exact Kd.R_mono (rfar 2 (rfar 1 (rfar 0 (Kd.R_types HO_105001.out BK105.out (by decide)) (.string a0_0)) (.slice Ao76 l0_1.length co76)) (.slice Ao77 l0_2.length co77)) (fun _ hk => hk.1.1), by (with_reducible repeat (first | apply Kd.R_alloc | apply Kd.R_drewN | apply Kd.R_drew)); exact Kd.R_mono (rfar 2 (rfar 1 (rfar 0 (Kd.R_types HO_105002.out BK105.out (by decide)) (.string a0_0)) (.slice Ao76 l0_1.length co76)) (.slice Ao77 l0_2.length co77)) (fun _ hk => hk.1), by exact bok HB.out, by repeat (first | (with_reducible first | exact HK.out | apply Kept.alloc | apply Kept.drewN | apply Kept.drew | refine Kept.setCell ?_ (.inr GW104.out) _ | refine Kept.setCell ?_ (.inr GW105.out) _ | refine Kept.setCell ?_ (.inr GW126.out) _) | exact HK.out)⟩
     ·
      replace c89 := Bool.eq_false_iff.mpr c89
      subst c89
      have H1 : (if (l0_1.length : Int) ≥ 60 then (some (a0_0, l0_1, l0_2, 15)) else (if (l0_2.length : Int) > 0 then (some (a0_0, l0_1, l0_2, 2)) else (if l0_1.length < 2932031007402 then (some (a0_0, (l0_1 ++ [(⟨t120, t121, t122, t123, t124⟩ : S40)]), l0_2, 0)) else (none)))) = some (r1, r2, r3, r4) := by rw [if_neg (show ¬ (false = true) by decide)] at H; exact H
      clear H
      have H := H1
      clear H1
      by_cases c95 : (l0_1.length : Int) ≥ 60
      ·
       rw [if_pos c95] at H
       have c95b0 : decide (60 ≤ (l0_1.length : Int)) = true := decide_eq_true c95
       have c95b1 : decide (60 ≤ l0_1.length) = true := decide_eq_true (by omega)
       clear c95
       simp only [Option.some.injEq, Prod.mk.injEq] at H
       obtain ⟨rfl, rfl, rfl, rfl⟩ := H
       have hnb96 := NB104_105.out
       have hnc96 := NB105_104.out
       have hnb97 := NB104_126.out
       have hnc97 := NB126_104.out
       obtain ⟨hcz98_0, hcz98_1, hcz98_2, hfz98_0, hfz98_1, hfz98_2⟩ := blk3 BK104.out
       have hnb99 := NB105_126.out
       have hnc99 := NB126_105.out
       obtain ⟨hcz100_0, hcz100_1, hcz100_2, hfz100_0, hfz100_1, hfz100_2⟩ := blk3 BK105.out
       go_wp2
       refine bodyPost_ret (results_ct rfl _ _ gb105 25 #[.string a0_0, .slice Ao76 l0_1.length co76, .slice Ao77 l0_2.length co77] (0, 0) _ rfl (by exact obk (blk_put (obk (blk_put (obk (blk_put (obk BK105.out) 0 _ rfl)) 1 _ rfl)) 2 _ rfl)) Tryd.underlying25 rfl (by kernel_rfl)) rfl ?_
       exact ⟨_, _, by first | rfl | (simp [*, errW_none, errW_some] <;> rfl), by (with_reducible repeat (first | apply Kd.R_alloc | apply Kd.R_drewN | apply Kd.R_drew)); exact Kd.R_mono (rfar 2 (rfar 1 (rfar 0 (Kd.R_types HO_105001.out BK105.out (by decide)) (.string a0_0)) (.slice Ao76 l0_1.length co76)) (.slice Ao77 l0_2.length co77)) (fun _ hk => hk.1.1), by (with_reducible repeat (first | apply Kd.R_alloc | apply Kd.R_drewN | apply Kd.R_drew)); exact Kd.R_mono (rfar 2 (rfar 1 (rfar 0 (Kd.R_types HO_105002.out BK105.out (by decide)) (.string a0_0)) (.slice Ao76 l0_1.length co76)) (.slice Ao77 l0_2.length co77)) (fun _ hk => hk.1), by exact bok HB.out, by repeat (first | (with_reducible first | exact HK.out | apply Kept.alloc | apply Kept.drewN | apply Kept.drew | refine Kept.setCell ?_ (.inr GW104.out) _ | refine Kept.setCell ?_ (.inr GW105.out) _ | refine Kept.setCell ?_ (.inr GW126.out) _) | exact HK.out)⟩
      ·
       rw [if_neg c95] at H
       have c95b0 : decide (60 ≤ (l0_1.length : Int)) = false := decide_eq_false c95
       have c95b1 : decide (60 ≤ l0_1.length) = false := decide_eq_false (by omega)
       clear c95
       by_cases c101 : (l0_2.length : Int) > 0
       ·
        rw [if_pos c101] at H
        have c101b0 : decide (0 < (l0_2.length : Int)) = true := decide_eq_true c101
        have c101b1 : decide (0 < l0_2.length) = true := decide_eq_true (by omega)
        clear c101
        simp only [Option.some.injEq, Prod.mk.injEq] at H
        obtain ⟨rfl, rfl, rfl, rfl⟩ := H
        have hnb102 := NB104_105.out
        have hnc102 := NB105_104.out
        have hnb103 := NB104_126.out
        have hnc103 := NB126_104.out
        obtain ⟨hcz104_0, hcz104_1, hcz104_2, hfz104_0, hfz104_1, hfz104_2⟩ := blk3 BK104.out
        have hnb105 := NB105_126.out
        have hnc105 := NB126_105.out
        obtain ⟨hcz106_0, hcz106_1, hcz106_2, hfz106_0, hfz106_1, hfz106_2⟩ := blk3 BK105.out
        go_wp2
        refine bodyPost_ret (results_ct rfl _ _ gb105 25 #[.string a0_0, .slice Ao76 l0_1.length co76, .slice Ao77 l0_2.length co77] (0, 0) _ rfl (by exact obk (blk_put (obk (blk_put (obk (blk_put (obk BK105.out) 0 _ rfl)) 1 _ rfl)) 2 _ rfl)) Tryd.underlying25 rfl (by kernel_rfl)) rfl ?_
        exact ⟨_, _, by first | rfl | (simp [*, errW_none, errW_some] <;> rfl), by (with_reducible repeat (first | apply Kd.R_alloc | apply Kd.R_drewN | apply Kd.R_drew)); exact Kd.R_mono (rfar 2 (rfar 1 (rfar 0 (Kd.R_types HO_105001.out BK105.out (by decide)) (.string a0_0)) (.slice Ao76 l0_1.length co76)) (.slice Ao77 l0_2.length co77)) (fun _ hk => hk.1.1), by (with_reducible repeat (first | apply Kd.R_alloc | apply Kd.R_drewN | apply Kd.R_drew)); exact Kd.R_mono (rfar 2 (rfar 1 (rfar 0 (Kd.R_types HO_105002.out BK105.out (by decide)) (.string a0_0)) (.slice Ao76 l0_1.length co76)) (.slice Ao77 l0_2.length co77)) (fun _ hk => hk.1), by exact bok HB.out, by repeat (first | (with_reducible first | exact HK.out | apply Kept.alloc | apply Kept.drewN | apply Kept.drew | refine Kept.setCell ?_ (.inr GW104.out) _ | refine Kept.setCell ?_ (.inr GW105.out) _ | refine Kept.setCell ?_ (.inr GW126.out) _) | exact HK.out)⟩
       ·
        rw [if_neg c101] at H
        have c101b0 : decide (0 < (l0_2.length : Int)) = false := decide_eq_false c101
        have c101b1 : decide (0 < l0_2.length) = false := decide_eq_false (by omega)
        clear c101
        by_cases c107 : l0_1.length < 2932031007402
        ·
         rw [if_pos c107] at H
         have LMc107 := mk0 c107
         clear c107
         obtain ⟨y127, hy127⟩ : ∃ y_ : List (S40), y_ = (l0_1 ++ [(⟨t120, t121, t122, t123, t124⟩ : S40)]) := ⟨_, rfl⟩
         replace H : (some (a0_0, y127, l0_2, 0)) = some (r1, r2, r3, r4) := by first | (rw [hy127]; with_reducible exact H) | (have H2_ := (Option.bind_some _ _).symm.trans H; rw [hy127]; with_reducible exact H2_) | (have H2_ := (Option.bind_some _ _).symm.trans H; with_reducible exact H2_) | with_reducible exact H | (rw [hy127]; exact H) | exact H
         have Ny127 := mk0 hy127
         clear hy127
         simp only [Option.some.injEq, Prod.mk.injEq] at H
         obtain ⟨rfl, rfl, rfl, rfl⟩ := H
         have hnb108 := NB104_105.out
         have hnc108 := NB105_104.out
         have hnb109 := NB104_126.out
         have hnc109 := NB126_104.out
         obtain ⟨hcz110_0, hcz110_1, hcz110_2, hfz110_0, hfz110_1, hfz110_2⟩ := blk3 BK104.out
         have hnb111 := NB126_105.out
         have hnc111 := NB105_126.out
         obtain ⟨hcz112_0, hcz112_1, hcz112_2, hcz112_3, hcz112_4, hfz112_0, hfz112_1, hfz112_2, hfz112_3, hfz112_4⟩ := blk5 BK126.out
         go_wp2_with (first | ((with_reducible refine gate_builtin (b := .append) (xs := #[.tmp 48, .tmp 50]) rfl ?_); at_builtin; refine Kd.R_append k40 (w0 := w0) w0.heap.size rfl (.tmp 48) (.tmp 50) 22 40 (.agg #[(.int .i64 0), (.int .i64 0), (.int .i64 0), (.int .i64 0), (.string ⟨#[]⟩)]) 48 rfl Tryd.underlying22 info40 rfl (by decide) (by omega) (.slice Ao76 l0_1.length co76) l0_1 (⟨t120, t121, t122, t123, t124⟩ : S40) [.int .i64 t120, .int .i64 t121, .int .i64 t122, .int .i64 t123, .string t124] (fun k_ => ((P0_1_ k_ ∨ P0_2_ k_) ∨ w.heap.size ≤ k_) ∧ k_ ≠ gb126) (fun _ => False) rfl rfl ?aP (fun _ hk => hk.elim) ?aF ?aO ?aB ?aS ?aL ?_; (case aP => exact k40_mkM _ _ _ (⟨t120, t121, t122, t123, t124⟩ : S40)); (case aB => exact (by exact bok HB.out)); (case aF => exact (fun k_ hk => ⟨(.inr (Nat.le_trans (by first | exact HK.out.1 | exact (show Kept w _ (fun k_ => P0_1_ k_ ∨ P0_2_ k_) from by repeat (first | (with_reducible first | exact HK.out | apply Kept.alloc | apply Kept.drewN | apply Kept.drew | refine Kept.setCell ?_ (.inr GW104.out) _ | refine Kept.setCell ?_ (.inr GW105.out) _ | refine Kept.setCell ?_ (.inr GW126.out) _) | exact HK.out)).1) hk)), Kd.freshB (g := gb126) (o := .cells #[.int .i64 t120, .int .i64 t121, .int .i64 t122, .int .i64 t123, .string t124] 40 (0, 0)) (by exact obk BK126.out) k_ hk⟩)); (case aO => exact (by exact rok HO_105001.out)); (case aS => exact (below_size (by exact bok HB.out))); (case aL => have := LMc107.out; omega); intro v128 w113 ho hb hg hat; rw [← Ny127.out] at ho; have n0_ := mk0 (Kd.R_over' (by exact rok HO_105002.out) (Kd.R_typed (by exact rok HO_105001.out)) (by decide) hg); have n1_ := mk0 (blk_grown (g := gb104) (o := .cells #[.string a0_0, .slice Ao76 l0_1.length co76, .slice Ao77 l0_2.length co77] 25 (0, 0)) (by exact obk BK104.out) hg (Kd.R_ne HO_105001.out BK104.out (by decide))); have n2_ := mk0 (blk_grown (g := gb105) (o := .cells #[.string (⟨#[]⟩ : ByteArray), .slice none 0 0, .slice none 0 0] 25 (0, 0)) (by exact obk BK105.out) hg (Kd.R_ne HO_105001.out BK105.out (by decide))); have n3_ := mk0 (blk_grown (g := gb126) (o := .cells #[.int .i64 t120, .int .i64 t121, .int .i64 t122, .int .i64 t123, .string t124] 40 (0, 0)) (by exact obk BK126.out) hg (Kd.R_away HO_105001.out (fun _ hk => hk.2))); have n4_ := mk0 (hb); have n5_ := mk0 (Kept.of_grown (S := (fun k_ => P0_1_ k_ ∨ P0_2_ k_)) hg (by repeat (first | (with_reducible first | exact HK.out | apply Kept.alloc | apply Kept.drewN | apply Kept.drew | refine Kept.setCell ?_ (.inr GW104.out) _ | refine Kept.setCell ?_ (.inr GW105.out) _ | refine Kept.setCell ?_ (.inr GW126.out) _) | exact HK.out)) (fun k_ e_ => (HO_105001.out.1 k_ e_).1)); have n6_ := mk0 (ho); clear HO_105002; clear BK104; clear BK105; clear BK126; clear HB; clear HK; clear HO_105001; have HO_105002 := n0_; have BK104 := n1_; have BK105 := n2_; have BK126 := n3_; have HB := n4_; have HK := n5_; have HO129 := n6_; clear n0_ n1_ n2_ n3_ n4_ n5_ n6_; clear ho hb hg hat; obtain ⟨Ao114, co114, eo114⟩ := Kd.R_slice HO129.out; subst eo114; obtain ⟨hcz115_0, hcz115_1, hcz115_2, hfz115_0, hfz115_1, hfz115_2⟩ := blk3 BK104.out; obtain ⟨hcz116_0, hcz116_1, hcz116_2, hfz116_0, hfz116_1, hfz116_2⟩ := blk3 BK105.out))
         refine bodyPost_ret (results_ct rfl _ _ gb105 25 #[.string a0_0, .slice Ao114 y127.length co114, .slice Ao77 l0_2.length co77] (0, 0) _ rfl (by exact obk (blk_put (obk (blk_put (obk (blk_put (obk (blkf (obk BK105.out) NB105_104.out)) 0 _ rfl)) 1 _ rfl)) 2 _ rfl)) Tryd.underlying25 rfl (by kernel_rfl)) rfl ?_
         exact ⟨_, _, by first | rfl | (simp [*, errW_none, errW_some] <;> rfl), by (with_reducible repeat (first | apply Kd.R_alloc | apply Kd.R_drewN | apply Kd.R_drew)); exact Kd.R_mono (Kd.R_far (p := ⟨gb105, 2, none⟩) (Kd.R_far (p := ⟨gb105, 1, none⟩) (Kd.R_far (p := ⟨gb105, 0, none⟩) (Kd.R_far (p := ⟨gb104, 1, none⟩) (Kd.R_types (Kd.R_types HO129.out BK104.out (by decide)) BK105.out (by decide)) (fun _ hk => hk.1.2) (.slice Ao114 y127.length co114)) (fun _ hk => hk.2) (.string a0_0)) (fun _ hk => hk.2) (.slice Ao114 y127.length co114)) (fun _ hk => hk.2) (.slice Ao77 l0_2.length co77)) (fun _ hk => hk.1.1.1), by (with_reducible repeat (first | apply Kd.R_alloc | apply Kd.R_drewN | apply Kd.R_drew)); exact Kd.R_mono (Kd.R_far (p := ⟨gb105, 2, none⟩) (Kd.R_far (p := ⟨gb105, 1, none⟩) (Kd.R_far (p := ⟨gb105, 0, none⟩) (Kd.R_far (p := ⟨gb104, 1, none⟩) (Kd.R_types (Kd.R_types HO_105002.out BK104.out (by decide)) BK105.out (by decide)) (fun _ hk => hk.1.2) (.slice Ao114 y127.length co114)) (fun _ hk => hk.2) (.string a0_0)) (fun _ hk => hk.2) (.slice Ao114 y127.length co114)) (fun _ hk => hk.2) (.slice Ao77 l0_2.length co77)) (fun _ hk => hk.1.1), by exact bok HB.out, by repeat (first | (with_reducible first | exact HK.out | apply Kept.alloc | apply Kept.drewN | apply Kept.drew | refine Kept.setCell ?_ (.inr GW104.out) _ | refine Kept.setCell ?_ (.inr GW105.out) _ | refine Kept.setCell ?_ (.inr GW126.out) _) | exact HK.out)⟩
        ·
         rw [if_neg c107] at H
         exact absurd H (by simp)

/-! ### def_Parse: function 12 -/
def def_Parse.l0 : Nat → List ByteArray → Int → Int → ByteArray → List (S40) → List (S42) → Option (ByteArray × (List (S40)) × (List (S42)) × Int × Int)
 | 0, _, _, _, _, _, _ => none
 | k + 1, x23, x24, x25, x131000, x131001, x131002 => if x25 < x24 then (if 0 ≤ x25 then (if x25 < (x23.length : Int) then ((def_put.f k x131000 x131001 x131002 x25 (rdOf ByteArray.empty x23 x25)).bind fun bt136 => (if bt136.2.2.2 = 0 then (def_Parse.l0 k x23 x24 (wrap64 (x25 + 1)) bt136.1 bt136.2.1 bt136.2.2.1) else (some ((⟨#[]⟩ : ByteArray), ([] : List (S40)), ([] : List (S42)), wrap64 (x25 + 1), bt136.2.2.2)))) else (none)) else (none)) else (some (x131000, x131001, x131002, 0, 0))
def def_Parse.f (k : Nat) (a0 : ByteArray) : Option (ByteArray × (List (S40)) × (List (S42)) × Int × Int) := (words_Lines.f k a0).bind fun bt131 => (if bt131.2 = 0 then (if (bt131.1.length : Int) = 0 then (some ((⟨#[]⟩ : ByteArray), ([] : List (S40)), ([] : List (S42)), 1, 2)) else (def_Parse.l0 k bt131.1 (bt131.1.length : Int) 0 (⟨#[]⟩ : ByteArray) ([] : List (S40)) ([] : List (S42)))) else (some ((⟨#[]⟩ : ByteArray), ([] : List (S40)), ([] : List (S42)), 0, bt131.2)))
theorem def_Parse.mono_l : ∀ k, (∀ y0 y1 y2 y3 y4 y5, LeO (def_Parse.l0 k y0 y1 y2 y3 y4 y5) (def_Parse.l0 (k + 1) y0 y1 y2 y3 y4 y5))
 | 0 => fun _ _ _ _ _ _ r h => by simp [def_Parse.l0] at h
 | k + 1 => by
  have ih0 := def_Parse.mono_l k
  ·
   intro y0 y1 y2 y3 y4 y5
   unfold def_Parse.l0
   repeat' first
   | (with_reducible exact ih0 _ _ _ _ _ _)
   | (with_reducible exact def_put.mono _ _ _ _ _ _)
   | (with_reducible exact words_Lines.mono _ _)
   | (with_reducible exact LeO.refl _)
   | (with_reducible exact LeO.none _)
   | (with_reducible refine LeO.ite ?_ ?_)
   | (with_reducible refine LeO.bind ?_ (fun _ => ?_))
   | exact ih0 _ _ _ _ _ _
   | exact def_put.mono _ _ _ _ _ _
   | exact words_Lines.mono _ _
   | exact LeO.none _
   | refine LeO.ite ?_ ?_
   | refine LeO.bind ?_ (fun _ => ?_)
theorem def_Parse.mono : ∀ a0 k, LeO (def_Parse.f k a0) (def_Parse.f (k + 1) a0) := by
 intro a0 k
 have ih0 := def_Parse.mono_l k
 unfold def_Parse.f
 repeat' first
   | (with_reducible exact ih0 _ _ _ _ _ _)
   | (with_reducible exact def_put.mono _ _ _ _ _ _)
   | (with_reducible exact words_Lines.mono _ _)
   | (with_reducible exact LeO.refl _)
   | (with_reducible exact LeO.none _)
   | (with_reducible refine LeO.ite ?_ ?_)
   | (with_reducible refine LeO.bind ?_ (fun _ => ?_))
   | exact ih0 _ _ _ _ _ _
   | exact def_put.mono _ _ _ _ _ _
   | exact words_Lines.mono _ _
   | exact LeO.none _
   | refine LeO.ite ?_ ?_
   | refine LeO.bind ?_ (fun _ => ?_)
set_option maxHeartbeats 8000000 in
set_option maxRecDepth 100000 in
theorem def_Parse.calls (k : Nat) (a0 : ByteArray) (r1 : ByteArray) (r2 : List (S40)) (r3 : List (S42)) (r4 : Int) (r5 : Int) (w : World) (h : def_Parse.f k a0 = some (r1, r2, r3, r4, r5)) :
  Calls Tryd.prog 12 #[.string a0] w fun e w' => ∃ v1_ v2_ : Value, e = .returned (.tuple #[.agg #[.string r1, v1_, v2_], .int .i64 r4, .int .i64 r5]) ∧ Kd.R k40 40 w' w.heap.size (fun _ => True) v1_ r2 ∧ Kd.R k42 42 w' w.heap.size (fun _ => True) v2_ r3 ∧ Below w.heap.size w w' := by
 have hu25 := Tryd.underlying25
 have HB := mk0 (Below.refl w.heap.size w)
 have H : ((words_Lines.f k a0).bind fun bt131 => (if bt131.2 = 0 then (if (bt131.1.length : Int) = 0 then (some ((⟨#[]⟩ : ByteArray), ([] : List (S40)), ([] : List (S42)), 1, 2)) else (def_Parse.l0 k bt131.1 (bt131.1.length : Int) 0 (⟨#[]⟩ : ByteArray) ([] : List (S40)) ([] : List (S42)))) else (some ((⟨#[]⟩ : ByteArray), ([] : List (S40)), ([] : List (S42)), 0, bt131.2)))) = some (r1, r2, r3, r4, r5) := h
 clear h
 replace H := Option.bind_eq_some_iff.mp H
 obtain ⟨⟨t131, t132⟩, A20, H⟩ := H
 replace H : (if t132 = 0 then (if (t131.length : Int) = 0 then (some ((⟨#[]⟩ : ByteArray), ([] : List (S40)), ([] : List (S42)), 1, 2)) else (def_Parse.l0 k t131 (t131.length : Int) 0 (⟨#[]⟩ : ByteArray) ([] : List (S40)) ([] : List (S42)))) else (some ((⟨#[]⟩ : ByteArray), ([] : List (S40)), ([] : List (S42)), 0, t132))) = some (r1, r2, r3, r4, r5) := H
 have A2 := mk0 A20
 clear A20
 by_cases c3 : t132 = 0
 ·
  rw [if_pos c3] at H
  have c3b0 : (t132 == 0) = true := beq_iff_eq.mpr c3
  have c3b1 : (t132 != 0) = false := bne_eq_false_iff_eq.mpr c3
  clear c3
  by_cases c4 : (t131.length : Int) = 0
  ·
   rw [if_pos c4] at H
   have c4b0 : ((t131.length : Int) == 0) = true := beq_iff_eq.mpr c4
   have c4b1 : ((t131.length : Int) != 0) = false := bne_eq_false_iff_eq.mpr c4
   clear c4
   simp only [Option.some.injEq, Prod.mk.injEq] at H
   obtain ⟨rfl, rfl, rfl, rfl, rfl⟩ := H
   go_enter Tryd.func12, Tryd.ntmps12
   go_wp2_with (first | ((with_reducible refine gate_dst (N := 2) rfl ?_); refine box_event ?hg (N := 2) ?hd (cs := #[.string (⟨#[]⟩ : ByteArray), .slice none 0 0, .slice none 0 0]) (t := 25) ?hr ?_; (case hd => rfl); (case hg => rfl); (case hr => first | (go_simp; done) | (go_simp; rfl)); intro gb130 hg w5 hbox hb; have n0_ := mk0 (bst HB.out hb); have n1_ := mk0 (hbox); have n2_ := mk0 (gle hg HB.out); have n3_ := mk0 (gle hg HB.out); clear HB; have HB := n0_; have BK130 := n1_; have GW130 := n2_; have GE130 := n3_; clear n0_ n1_ n2_ n3_; clear hb hbox hg) | ((with_reducible refine gate_callee (f := 13) rfl ?_); refine goesL_ (some 10) rfl rfl Tryd.func13 (by kernel_rfl) rfl #[.string a0] rfl (by (try simp only [List.map_toArray, List.map_cons, List.map_nil]); first | done | rfl | (simp only [List.length_drop, List.length_take]; rfl)) ?_; (with_reducible refine (words_Lines.calls k a0 t131 t132 _ A2.out).mono ?_); rintro e w6 ⟨v133, rfl, ho0, hb⟩; refine ⟨_, rfl, ?_⟩; have n0_ := mk0 (Kd.R_lower ho0 (below_size (by exact bok HB.out))); have n1_ := mk0 (blk_below (obk BK130.out) hb); have n2_ := mk0 (bst HB.out hb); clear BK130; clear HB; have HO134 := n0_; have BK130 := n1_; have HB := n2_; clear n0_ n1_ n2_; (try clear hb); (try clear ho0); obtain ⟨Ao7, co7, eo7⟩ := Kd.R_slice HO134.out; subst eo7; obtain ⟨hcz8_0, hcz8_1, hcz8_2, hfz8_0, hfz8_1, hfz8_2⟩ := blk3 BK130.out))
   refine bodyPost_ret (results_ctt rfl _ _ gb130 25 #[.string (⟨#[]⟩ : ByteArray), .slice none 0 0, .slice none 0 0] (0, 0) _ rfl (by exact obk (blk_put (obk (blk_put (obk (blk_put (obk BK130.out) 0 _ rfl)) 1 _ rfl)) 2 _ rfl)) Tryd.underlying25 rfl (by kernel_rfl)) rfl ?_
   exact ⟨_, _, by first | rfl | (simp [*, errW_none, errW_some] <;> rfl), by first | exact Kd.R_nil _ _ _ _ _ | exact Kd.N_nil _ _ _ _ _ | exact Kd.V_nil _ _ _ _ _ | exact Kd.Q_nil _ _ _ _ _ | exact Kd.S_nil _ _ _ _ _, by first | exact Kd.R_nil _ _ _ _ _ | exact Kd.N_nil _ _ _ _ _ | exact Kd.V_nil _ _ _ _ _ | exact Kd.Q_nil _ _ _ _ _ | exact Kd.S_nil _ _ _ _ _, by exact bok HB.out⟩
  ·
   rw [if_neg c4] at H
   have c4b0 : ((t131.length : Int) == 0) = false := beq_eq_false_iff_ne.mpr c4
   have c4b1 : ((t131.length : Int) != 0) = true := bne_iff_ne.mpr c4
   have c4b2 : ¬ (t131 = []) := fun h_ => c4 (by rw [h_]; rfl)
   have H' := mk0 H
   clear H
   go_enter Tryd.func12, Tryd.ntmps12
   go_wp2_with (first | ((with_reducible refine gate_dst (N := 2) rfl ?_); refine box_event ?hg (N := 2) ?hd (cs := #[.string (⟨#[]⟩ : ByteArray), .slice none 0 0, .slice none 0 0]) (t := 25) ?hr ?_; (case hd => rfl); (case hg => rfl); (case hr => first | (go_simp; done) | (go_simp; rfl)); intro gb130 hg w9 hbox hb; have n0_ := mk0 (bst HB.out hb); have n1_ := mk0 (hbox); have n2_ := mk0 (gle hg HB.out); have n3_ := mk0 (gle hg HB.out); clear HB; have HB := n0_; have BK130 := n1_; have GW130 := n2_; have GE130 := n3_; clear n0_ n1_ n2_ n3_; clear hb hbox hg) | ((with_reducible refine gate_callee (f := 13) rfl ?_); refine goesL_ (some 10) rfl rfl Tryd.func13 (by kernel_rfl) rfl #[.string a0] rfl (by (try simp only [List.map_toArray, List.map_cons, List.map_nil]); first | done | rfl | (simp only [List.length_drop, List.length_take]; rfl)) ?_; (with_reducible refine (words_Lines.calls k a0 t131 t132 _ A2.out).mono ?_); rintro e w10 ⟨v133, rfl, ho0, hb⟩; refine ⟨_, rfl, ?_⟩; have n0_ := mk0 (Kd.R_lower ho0 (below_size (by exact bok HB.out))); have n1_ := mk0 (blk_below (obk BK130.out) hb); have n2_ := mk0 (bst HB.out hb); clear BK130; clear HB; have HO134 := n0_; have BK130 := n1_; have HB := n2_; clear n0_ n1_ n2_; (try clear hb); (try clear ho0); obtain ⟨Ao11, co11, eo11⟩ := Kd.R_slice HO134.out; subst eo11))
   go_loopg [25] k (fun kq v25 w' => ∃ (x25_1 : Int) (x131000_1 : ByteArray) (x131001_1 : List (S40)) (x131002_1 : List (S42)) (u131001 : Value) (u131002 : Value), v25 = .int .i64 x25_1 ∧ Aside0 (def_Parse.l0 kq t131 (t131.length : Int) x25_1 x131000_1 x131001_1 x131002_1 = some (r1, r2, r3, r4, r5)) ∧ Aside0 (kq ≤ k) ∧ Aside0 (Kd.R Kd.string 9 w' w.heap.size (fun _ => True) (.slice Ao11 t131.length co11) t131) ∧ Aside0 (Kd.R k40 40 w' w.heap.size (fun _ => True) u131001 x131001_1) ∧ Aside0 (Kd.R k42 42 w' w.heap.size (fun _ => True) u131002 x131002_1) ∧ Aside0 (w'.heap[gb130]? = some (.cells #[.string x131000_1, u131001, u131002] 25 (0, 0))) ∧ Aside0 (Below w.heap.size w w'))
   case atStart => exact ⟨(0), ((⟨#[]⟩ : ByteArray)), (([] : List (S40))), (([] : List (S42))), (.slice none 0 0), (.slice none 0 0), (by first | rfl | (simp; done) | (simp [*]; done)), H', ⟨Nat.le_refl _⟩, ⟨by exact rok HO134.out⟩, ⟨by first | exact Kd.R_nil _ _ _ _ _ | exact Kd.N_nil _ _ _ _ _ | exact Kd.V_nil _ _ _ _ _ | exact Kd.Q_nil _ _ _ _ _ | exact Kd.S_nil _ _ _ _ _⟩, ⟨by first | exact Kd.R_nil _ _ _ _ _ | exact Kd.N_nil _ _ _ _ _ | exact Kd.V_nil _ _ _ _ _ | exact Kd.Q_nil _ _ _ _ _ | exact Kd.S_nil _ _ _ _ _⟩, ⟨by exact obk BK130.out⟩, ⟨by exact bok HB.out⟩⟩
   case round =>
    clear H'
    try clear c1
    try clear p2
    try clear c3
    try clear c3b0
    try clear c3b1
    try clear c4
    try clear c4b0
    try clear c4b1
    try clear c4b2
    obtain ⟨x25_1, x131000_1, x131001_1, x131002_1, u131001, u131002, rfl, HA, HK1, HO_23, HO_131001, HO_131002, BK130, HB⟩ := hrel
    cases gk with
    | zero => exact absurd HA.out (by simp [def_Parse.l0])
    | succ k1 =>
     have H := HA.out
     clear HA
     simp only [def_Parse.l0] at H
     by_cases c12 : x25_1 < (t131.length : Int)
     ·
      rw [if_pos c12] at H
      have c12b0 : decide (x25_1 < (t131.length : Int)) = true := decide_eq_true c12
      clear c12
      by_cases c13 : 0 ≤ x25_1
      ·
       rw [if_pos c13] at H
       have c13b0 : decide (0 ≤ x25_1) = true := decide_eq_true c13
       clear c13
       by_cases c14 : x25_1 < (t131.length : Int)
       ·
        rw [if_pos c14] at H
        have c14b0 : decide (x25_1 < (t131.length : Int)) = true := decide_eq_true c14
        clear c14
        replace H := Option.bind_eq_some_iff.mp H
        obtain ⟨⟨t136, t137, t140, t143⟩, A150, H⟩ := H
        replace H : (if t143 = 0 then (def_Parse.l0 k1 t131 (t131.length : Int) (wrap64 (x25_1 + 1)) t136 t137 t140) else (some ((⟨#[]⟩ : ByteArray), ([] : List (S40)), ([] : List (S42)), wrap64 (x25_1 + 1), t143))) = some (r1, r2, r3, r4, r5) := H
        have A15 := mk0 A150
        clear A150
        by_cases c16 : t143 = 0
        ·
         rw [if_pos c16] at H
         have c16b0 : (t143 == 0) = true := beq_iff_eq.mpr c16
         have c16b1 : (t143 != 0) = false := bne_eq_false_iff_eq.mpr c16
         clear c16
         have H' := mk0 H
         clear H
         have p135 : 0 ≤ (x25_1 : Int) := of_decide_eq_true (by assumption)
         have q135 : x25_1 < (t131.length : Int) := of_decide_eq_true (by assumption)
         obtain ⟨ad135, e135, hx135_0⟩ := Kd.at_string (Kd.R_reads' HO_23.out).2.2 x25_1 p135 q135
         cases e135
         replace p135 := eq_true p135
         replace q135 := eq_true q135
         obtain ⟨hcz17_0, hcz17_1, hcz17_2, hfz17_0, hfz17_1, hfz17_2⟩ := blk3 BK130.out
         obtain ⟨Ao18, co18, eo18⟩ := Kd.R_slice HO_131001.out
         subst eo18
         obtain ⟨Ao19, co19, eo19⟩ := Kd.R_slice HO_131002.out
         subst eo19
         go_wp2_with (first | ((with_reducible refine gate_callee (f := 21) rfl ?_); refine goesL_ (some 34) rfl rfl Tryd.func21 (by kernel_rfl) rfl #[.agg #[.string x131000_1, .slice Ao18 x131001_1.length co18, .slice Ao19 x131002_1.length co19], .int .i64 x25_1, .string (rdOf ByteArray.empty t131 x25_1)] rfl (by (try simp only [List.map_toArray, List.map_cons, List.map_nil]); first | done | rfl | (simp only [List.length_drop, List.length_take]; rfl)) ?_; (with_reducible refine (def_put.calls k1 x131000_1 (fun k_ => some k_ = (.slice Ao18 x131001_1.length co18 : Value).ownBlock) (.slice Ao18 x131001_1.length co18) x131001_1 (fun k_ => some k_ = (.slice Ao19 x131002_1.length co19 : Value).ownBlock) (.slice Ao19 x131002_1.length co19) x131002_1 x25_1 (rdOf ByteArray.empty t131 x25_1) t136 t137 t140 t143 w _ ?side1 ?side2 ?side3 A15.out).mono ?_); (case side1 => exact bok HB.out); (case side2 => exact Kd.R_tight rfl HO_131001.out); (case side3 => exact Kd.R_tight rfl HO_131002.out); rintro e w20 ⟨v138, v141, rfl, ho0, ho1, hb, hkp⟩; refine ⟨_, rfl, ?_⟩; have n0_ := mk0 (Kd.R_mono (ok' := fun k_ => True) (Kd.R_keptB ((Kd.R_apart' (Kd.R_apart' HO_23.out (Kd.R_typed HO_131001.out) (by decide)) (Kd.R_typed HO_131002.out) (by decide))) hkp (fun k_ hk_ hs_ => Or.elim hs_ (fun e_ => (hk_.1.2) e_) (fun e_ => (hk_.2) e_))) (fun k_ hk_ => trivial)); have n1_ := mk0 (blk_kept (by exact obk BK130.out) hkp (fun hs_ => Or.elim hs_ (fun e_ => (fun e_ => (Kd.R_ne HO_131001.out BK130.out (by decide)) e_) e_) (fun e_ => (fun e_ => (Kd.R_ne HO_131002.out BK130.out (by decide)) e_) e_))); have n2_ := mk0 (Kd.R_mono (ok' := fun k_ => True) ho0 (fun k_ hk_ => trivial)); have n3_ := mk0 (Kd.R_mono (ok' := fun k_ => True) ho1 (fun k_ hk_ => trivial)); have n4_ := mk0 (hb); clear HO_23; clear BK130; clear HB; clear HO_131001; clear HO_131002; have HO_23 := n0_; have BK130 := n1_; have HO139 := n2_; have HO142 := n3_; have HB := n4_; clear n0_ n1_ n2_ n3_ n4_; (try clear hb); (try clear hkp); (try clear ho0); (try clear ho1); obtain ⟨hcz21_0, hcz21_1, hcz21_2, hfz21_0, hfz21_1, hfz21_2⟩ := blk3 BK130.out; obtain ⟨Ao22, co22, eo22⟩ := Kd.R_slice HO139.out; subst eo22; obtain ⟨Ao23, co23, eo23⟩ := Kd.R_slice HO142.out; subst eo23))
         go_roundg k1
         case measure => have := HK1.out; omega
         case rel => exact ⟨(wrap64 (x25_1 + 1)), (t136), (t137), (t140), (.slice Ao22 t137.length co22), (.slice Ao23 t140.length co23), (by first | rfl | (simp; done) | (simp [*]; done)), H', ⟨by have := HK1.out; omega⟩, ⟨by (with_reducible repeat (first | apply Kd.R_alloc | apply Kd.R_drewN | apply Kd.R_drew)); exact Kd.R_mono (rfar 2 (rfar 1 (rfar 0 (Kd.R_types HO_23.out BK130.out (by decide)) (.string t136)) (.slice Ao22 t137.length co22)) (.slice Ao23 t140.length co23)) (fun _ hk => trivial)⟩, ⟨by (with_reducible repeat (first | apply Kd.R_alloc | apply Kd.R_drewN | apply Kd.R_drew)); exact Kd.R_mono (rfar 2 (rfar 1 (rfar 0 (Kd.R_types HO139.out BK130.out (by decide)) (.string t136)) (.slice Ao22 t137.length co22)) (.slice Ao23 t140.length co23)) (fun _ hk => trivial)⟩, ⟨by (with_reducible repeat (first | apply Kd.R_alloc | apply Kd.R_drewN | apply Kd.R_drew)); exact Kd.R_mono (rfar 2 (rfar 1 (rfar 0 (Kd.R_types HO142.out BK130.out (by decide)) (.string t136)) (.slice Ao22 t137.length co22)) (.slice Ao23 t140.length co23)) (fun _ hk => trivial)⟩, ⟨by refine obk ?_; refine blk_put (cs := #[.string t136, .slice Ao22 t137.length co22, .slice Ao19 x131002_1.length co19]) ?_ 2 _ rfl; refine obk ?_; refine blk_put (cs := #[.string t136, .slice Ao18 x131001_1.length co18, .slice Ao19 x131002_1.length co19]) ?_ 1 _ rfl; refine obk ?_; refine blk_put (cs := #[.string x131000_1, .slice Ao18 x131001_1.length co18, .slice Ao19 x131002_1.length co19]) ?_ 0 _ rfl; exact obk BK130.out⟩, ⟨by exact bok HB.out⟩⟩
        ·
         rw [if_neg c16] at H
         have c16b0 : (t143 == 0) = false := beq_eq_false_iff_ne.mpr c16
         have c16b1 : (t143 != 0) = true := bne_iff_ne.mpr c16
         simp only [Option.some.injEq, Prod.mk.injEq] at H
         obtain ⟨rfl, rfl, rfl, rfl, rfl⟩ := H
         have p135 : 0 ≤ (x25_1 : Int) := of_decide_eq_true (by assumption)
         have q135 : x25_1 < (t131.length : Int) := of_decide_eq_true (by assumption)
         obtain ⟨ad135, e135, hx135_0⟩ := Kd.at_string (Kd.R_reads' HO_23.out).2.2 x25_1 p135 q135
         cases e135
         replace p135 := eq_true p135
         replace q135 := eq_true q135
         obtain ⟨hcz24_0, hcz24_1, hcz24_2, hfz24_0, hfz24_1, hfz24_2⟩ := blk3 BK130.out
         obtain ⟨Ao25, co25, eo25⟩ := Kd.R_slice HO_131001.out
         subst eo25
         obtain ⟨Ao26, co26, eo26⟩ := Kd.R_slice HO_131002.out
         subst eo26
         go_wp2_with (first | ((with_reducible refine gate_callee (f := 21) rfl ?_); refine goesL_ (some 34) rfl rfl Tryd.func21 (by kernel_rfl) rfl #[.agg #[.string x131000_1, .slice Ao25 x131001_1.length co25, .slice Ao26 x131002_1.length co26], .int .i64 x25_1, .string (rdOf ByteArray.empty t131 x25_1)] rfl (by (try simp only [List.map_toArray, List.map_cons, List.map_nil]); first | done | rfl | (simp only [List.length_drop, List.length_take]; rfl)) ?_; (with_reducible refine (def_put.calls k1 x131000_1 (fun k_ => some k_ = (.slice Ao25 x131001_1.length co25 : Value).ownBlock) (.slice Ao25 x131001_1.length co25) x131001_1 (fun k_ => some k_ = (.slice Ao26 x131002_1.length co26 : Value).ownBlock) (.slice Ao26 x131002_1.length co26) x131002_1 x25_1 (rdOf ByteArray.empty t131 x25_1) t136 t137 t140 t143 w _ ?side1 ?side2 ?side3 A15.out).mono ?_); (case side1 => exact bok HB.out); (case side2 => exact Kd.R_tight rfl HO_131001.out); (case side3 => exact Kd.R_tight rfl HO_131002.out); rintro e w27 ⟨v138, v141, rfl, ho0, ho1, hb, hkp⟩; refine ⟨_, rfl, ?_⟩; have n0_ := mk0 (Kd.R_mono (ok' := fun k_ => True) (Kd.R_keptB ((Kd.R_apart' (Kd.R_apart' HO_23.out (Kd.R_typed HO_131001.out) (by decide)) (Kd.R_typed HO_131002.out) (by decide))) hkp (fun k_ hk_ hs_ => Or.elim hs_ (fun e_ => (hk_.1.2) e_) (fun e_ => (hk_.2) e_))) (fun k_ hk_ => trivial)); have n1_ := mk0 (blk_kept (by exact obk BK130.out) hkp (fun hs_ => Or.elim hs_ (fun e_ => (fun e_ => (Kd.R_ne HO_131001.out BK130.out (by decide)) e_) e_) (fun e_ => (fun e_ => (Kd.R_ne HO_131002.out BK130.out (by decide)) e_) e_))); have n2_ := mk0 (Kd.R_mono (ok' := fun k_ => True) ho0 (fun k_ hk_ => trivial)); have n3_ := mk0 (Kd.R_mono (ok' := fun k_ => True) ho1 (fun k_ hk_ => trivial)); have n4_ := mk0 (hb); clear HO_23; clear BK130; clear HB; clear HO_131001; clear HO_131002; have HO_23 := n0_; have BK130 := n1_; have HO139 := n2_; have HO142 := n3_; have HB := n4_; clear n0_ n1_ n2_ n3_ n4_; (try clear hb); (try clear hkp); (try clear ho0); (try clear ho1); obtain ⟨hcz28_0, hcz28_1, hcz28_2, hfz28_0, hfz28_1, hfz28_2⟩ := blk3 BK130.out; obtain ⟨Ao29, co29, eo29⟩ := Kd.R_slice HO139.out; subst eo29; obtain ⟨Ao30, co30, eo30⟩ := Kd.R_slice HO142.out; subst eo30))
         refine bodyPost_ret (results_ctt rfl _ _ gb130 25 #[.string (⟨#[]⟩ : ByteArray), .slice none 0 0, .slice none 0 0] (0, 0) _ rfl (by exact obk (blk_put (obk (blk_put (obk (blk_put (obk (blk_put (obk (blk_put (obk (blk_put (obk BK130.out) 0 _ rfl)) 1 _ rfl)) 2 _ rfl)) 0 _ rfl)) 1 _ rfl)) 2 _ rfl)) Tryd.underlying25 rfl (by kernel_rfl)) rfl ?_
         exact ⟨_, _, by first | rfl | (simp [*, errW_none, errW_some] <;> rfl), by first | exact Kd.R_nil _ _ _ _ _ | exact Kd.N_nil _ _ _ _ _ | exact Kd.V_nil _ _ _ _ _ | exact Kd.Q_nil _ _ _ _ _ | exact Kd.S_nil _ _ _ _ _, by first | exact Kd.R_nil _ _ _ _ _ | exact Kd.N_nil _ _ _ _ _ | exact Kd.V_nil _ _ _ _ _ | exact Kd.Q_nil _ _ _ _ _ | exact Kd.S_nil _ _ _ _ _, by exact bok HB.out⟩
       ·
        rw [if_neg c14] at H
        exact absurd H (by simp)
      ·
       rw [if_neg c13] at H
       exact absurd H (by simp)
     ·
      rw [if_neg c12] at H
      have c12b0 : decide (x25_1 < (t131.length : Int)) = false := decide_eq_false c12
      clear c12
      simp only [Option.some.injEq, Prod.mk.injEq] at H
      obtain ⟨rfl, rfl, rfl, rfl, rfl⟩ := H
      obtain ⟨hcz31_0, hcz31_1, hcz31_2, hfz31_0, hfz31_1, hfz31_2⟩ := blk3 BK130.out
      obtain ⟨Ao32, co32, eo32⟩ := Kd.R_slice HO_131001.out
      subst eo32
      obtain ⟨Ao33, co33, eo33⟩ := Kd.R_slice HO_131002.out
      subst eo33
      go_wp2
      refine bodyPost_ret (results_ctt rfl _ _ gb130 25 #[.string x131000_1, .slice Ao32 x131001_1.length co32, .slice Ao33 x131002_1.length co33] (0, 0) _ rfl (by exact obk (blk_put (obk (blk_put (obk (blk_put (obk BK130.out) 0 _ rfl)) 1 _ rfl)) 2 _ rfl)) Tryd.underlying25 rfl (by kernel_rfl)) rfl ?_
      exact ⟨_, _, by first | rfl | (simp [*, errW_none, errW_some] <;> rfl), by (with_reducible repeat (first | apply Kd.R_alloc | apply Kd.R_drewN | apply Kd.R_drew)); exact Kd.R_mono (rfar 2 (rfar 1 (rfar 0 (Kd.R_types HO_131001.out BK130.out (by decide)) (.string x131000_1)) (.slice Ao32 x131001_1.length co32)) (.slice Ao33 x131002_1.length co33)) (fun _ hk => trivial), by (with_reducible repeat (first | apply Kd.R_alloc | apply Kd.R_drewN | apply Kd.R_drew)); exact Kd.R_mono (rfar 2 (rfar 1 (rfar 0 (Kd.R_types HO_131002.out BK130.out (by decide)) (.string x131000_1)) (.slice Ao32 x131001_1.length co32)) (.slice Ao33 x131002_1.length co33)) (fun _ hk => trivial), by exact bok HB.out⟩
 ·
  rw [if_neg c3] at H
  have c3b0 : (t132 == 0) = false := beq_eq_false_iff_ne.mpr c3
  have c3b1 : (t132 != 0) = true := bne_iff_ne.mpr c3
  simp only [Option.some.injEq, Prod.mk.injEq] at H
  obtain ⟨rfl, rfl, rfl, rfl, rfl⟩ := H
  go_enter Tryd.func12, Tryd.ntmps12
  go_wp2_with (first | ((with_reducible refine gate_dst (N := 2) rfl ?_); refine box_event ?hg (N := 2) ?hd (cs := #[.string (⟨#[]⟩ : ByteArray), .slice none 0 0, .slice none 0 0]) (t := 25) ?hr ?_; (case hd => rfl); (case hg => rfl); (case hr => first | (go_simp; done) | (go_simp; rfl)); intro gb130 hg w34 hbox hb; have n0_ := mk0 (bst HB.out hb); have n1_ := mk0 (hbox); have n2_ := mk0 (gle hg HB.out); have n3_ := mk0 (gle hg HB.out); clear HB; have HB := n0_; have BK130 := n1_; have GW130 := n2_; have GE130 := n3_; clear n0_ n1_ n2_ n3_; clear hb hbox hg) | ((with_reducible refine gate_callee (f := 13) rfl ?_); refine goesL_ (some 10) rfl rfl Tryd.func13 (by kernel_rfl) rfl #[.string a0] rfl (by (try simp only [List.map_toArray, List.map_cons, List.map_nil]); first | done | rfl | (simp only [List.length_drop, List.length_take]; rfl)) ?_; (with_reducible refine (words_Lines.calls k a0 t131 t132 _ A2.out).mono ?_); rintro e w35 ⟨v133, rfl, ho0, hb⟩; refine ⟨_, rfl, ?_⟩; have n0_ := mk0 (Kd.R_lower ho0 (below_size (by exact bok HB.out))); have n1_ := mk0 (blk_below (obk BK130.out) hb); have n2_ := mk0 (bst HB.out hb); clear BK130; clear HB; have HO134 := n0_; have BK130 := n1_; have HB := n2_; clear n0_ n1_ n2_; (try clear hb); (try clear ho0); obtain ⟨hcz36_0, hcz36_1, hcz36_2, hfz36_0, hfz36_1, hfz36_2⟩ := blk3 BK130.out))
  refine bodyPost_ret (results_ctt rfl _ _ gb130 25 #[.string (⟨#[]⟩ : ByteArray), .slice none 0 0, .slice none 0 0] (0, 0) _ rfl (by exact obk (blk_put (obk (blk_put (obk (blk_put (obk BK130.out) 0 _ rfl)) 1 _ rfl)) 2 _ rfl)) Tryd.underlying25 rfl (by kernel_rfl)) rfl ?_
  exact ⟨_, _, by first | rfl | (simp [*, errW_none, errW_some] <;> rfl), by first | exact Kd.R_nil _ _ _ _ _ | exact Kd.N_nil _ _ _ _ _ | exact Kd.V_nil _ _ _ _ _ | exact Kd.Q_nil _ _ _ _ _ | exact Kd.S_nil _ _ _ _ _, by first | exact Kd.R_nil _ _ _ _ _ | exact Kd.N_nil _ _ _ _ _ | exact Kd.V_nil _ _ _ _ _ | exact Kd.Q_nil _ _ _ _ _ | exact Kd.S_nil _ _ _ _ _, by exact bok HB.out⟩


end Go.Proofs.YtpalncojmknlbaaDoor.Y
