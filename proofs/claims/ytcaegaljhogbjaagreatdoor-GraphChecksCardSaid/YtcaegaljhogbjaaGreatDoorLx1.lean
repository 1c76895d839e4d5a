/- What Go functions compute, as plain Lean functions, and that the machine comes to just that: written by wip/tools/printx.py (my run of the printer, with contracts of mine beside it). -/
import Derived.Test.YtcaegaljhogbjaaGreatDoorProg
import Derived.Below
import Derived.Deep.Draws
import Derived.Deep.AppendLies
import Derived.Maps.AppendAt
import Derived.OwnWalk
import Derived.Laws.BytesArg
import Derived.Laws.MakeOwn
import Derived.Laws.OwnMore
import Derived.Deep.OwnRows
import Derived.Tactics
import Derived.Lib.ConvBytes
import Derived.Laws.Slices
import Derived.WalkKit
import Derived.KernelRfl
import Derived.RowKit3
import Derived.Deep.LoopGhost
import Derived.Deep.QuietTactic
import Derived.BigQuiet
import Derived.WideLaws
import Derived.Deep.DeepCutAuto
import Derived.Deep.CutBlock
import Derived.Deep.RegionHeld3
import Derived.Laws.Rows
import Derived.Lib.AppendStr
import Derived.ArgAppend
import Derived.Laws.IdiomCopy
import Derived.OrdersHeld
import Derived.Laws.BitsLemmas
import Derived.RowKit
import Derived.Test.YtcaegaljhogbjaaGreatDoorOn
import Derived.Test.YtcaegaljhogbjaaGreatDoorYx5
import Derived.Test.YtcaegaljhogbjaaGreatDoorYx7
import Derived.Test.YtcaegaljhogbjaaGreatDoorGraphCheck
import Derived.Test.YtcaegaljhogbjaaGreatDoorGraphTm
namespace Go.Proofs.YtcaegaljhogbjaaGreatDoor.L
open Go.Proofs.YtcaegaljhogbjaaGreatDoor.Y Go.Proofs.YtcaegaljhogbjaaGreatDoor.Gr Go.RowKit Go.Proofs.YtcaegaljhogbjaaGreatDoorW.PrintWords Go.Proofs.YtcaegaljhogbjaaGreatDoorW.PrintLast Go.Proofs.YtcaegaljhogbjaaGreatDoorW.PrintMore
attribute [local go_sem] max2_int min2_int max_two min_two max_three min_three max_four min_four   -- for this text's walks alone
set_option linter.unusedVariables false
set_option linter.unusedSimpArgs false



theorem info38 : (Tryz.prog.info? 38).map (fun i => (i.zero, i.size, i.bytes)) = some (some (.agg #[(.int .i64 0), (.int .i64 0), (.int .i64 0), (.int .i64 0), (.string ⟨#[]⟩)]), 5, 48) := by kernel_rfl
theorem info40 : (Tryz.prog.info? 40).map (fun i => (i.zero, i.size, i.bytes)) = some (some (.agg #[(.int .i64 0), (.int .i64 0), (.int .i64 0), (.int .i64 0), (.string ⟨#[]⟩)]), 5, 48) := by kernel_rfl
end Go.Proofs.YtcaegaljhogbjaaGreatDoor.L

set_option maxHeartbeats 8000000
set_option maxRecDepth 100000
namespace Go.Proofs.YtcaegaljhogbjaaGreatDoor.L
open Go.Proofs.YtcaegaljhogbjaaGreatDoor.Y Go.Proofs.YtcaegaljhogbjaaGreatDoor.Gr Go.RowKit Go.Proofs.YtcaegaljhogbjaaGreatDoorW.PrintWords Go.Proofs.YtcaegaljhogbjaaGreatDoorW.PrintLast Go.Proofs.YtcaegaljhogbjaaGreatDoorW.PrintMore
attribute [local go_sem] max2_int min2_int max_two min_two max_three min_three max_four min_four   -- for this text's walks alone
set_option linter.unusedVariables false
set_option linter.unusedSimpArgs false




/-! ### zay: function 20 -/
def zay.f  : Option (ByteArray × (List (S38)) × (List (S40))) := some ((⟨#[112]⟩ : ByteArray), (([(⟨1, 0, 0, 0, (⟨#[]⟩ : ByteArray)⟩ : S38), (⟨3, 0, 0, 0, (⟨#[]⟩ : ByteArray)⟩ : S38), (⟨2, 0, 0, 0, (⟨#[]⟩ : ByteArray)⟩ : S38)] : List (S38))), (([(⟨1, 2, 0, 0, (⟨#[]⟩ : ByteArray)⟩ : S40), (⟨2, 3, 0, 0, (⟨#[]⟩ : ByteArray)⟩ : S40)] : List (S40))))
theorem zay.calls  (r1 : ByteArray) (r2 : List (S38)) (r3 : List (S40)) (w : World) (h : zay.f  = some (r1, r2, r3)) :
  Calls Tryz.prog 20 #[] w fun e w' => ∃ v1_ v2_ : Value, e = .returned (.agg #[.string r1, v1_, v2_]) ∧ Kd.R k38 38 w' w.heap.size (fun _ => True) v1_ r2 ∧ Kd.R k40 40 w' w.heap.size (fun _ => True) v2_ r3 ∧ Below w.heap.size w w' := by
 have hu25 := Tryz.underlying25
 have hu38 := Tryz.underlying38
 have hu40 := Tryz.underlying40
 have HB := mk0 (Below.refl w.heap.size w)
 have H : (some ((⟨#[112]⟩ : ByteArray), (([(⟨1, 0, 0, 0, (⟨#[]⟩ : ByteArray)⟩ : S38), (⟨3, 0, 0, 0, (⟨#[]⟩ : ByteArray)⟩ : S38), (⟨2, 0, 0, 0, (⟨#[]⟩ : ByteArray)⟩ : S38)] : List (S38))), (([(⟨1, 2, 0, 0, (⟨#[]⟩ : ByteArray)⟩ : S40), (⟨2, 3, 0, 0, (⟨#[]⟩ : ByteArray)⟩ : S40)] : List (S40))))) = some (r1, r2, r3) := h
 clear h
 obtain ⟨y102, hy102⟩ : ∃ y_ : List (S38), y_ = (([(⟨1, 0, 0, 0, (⟨#[]⟩ : ByteArray)⟩ : S38), (⟨3, 0, 0, 0, (⟨#[]⟩ : ByteArray)⟩ : S38), (⟨2, 0, 0, 0, (⟨#[]⟩ : ByteArray)⟩ : S38)] : List (S38))) := ⟨_, rfl⟩
 replace H : (some ((⟨#[112]⟩ : ByteArray), y102, (([(⟨1, 2, 0, 0, (⟨#[]⟩ : ByteArray)⟩ : S40), (⟨2, 3, 0, 0, (⟨#[]⟩ : ByteArray)⟩ : S40)] : List (S40))))) = some (r1, r2, r3) := by first | (rw [hy102]; with_reducible exact H) | (have H2_ := (Option.bind_some _ _).symm.trans H; rw [hy102]; with_reducible exact H2_) | (have H2_ := (Option.bind_some _ _).symm.trans H; with_reducible exact H2_) | with_reducible exact H | (rw [hy102]; exact H) | exact H
 have Ny102 := mk0 hy102
 clear hy102
 obtain ⟨y105, hy105⟩ : ∃ y_ : List (S40), y_ = (([(⟨1, 2, 0, 0, (⟨#[]⟩ : ByteArray)⟩ : S40), (⟨2, 3, 0, 0, (⟨#[]⟩ : ByteArray)⟩ : S40)] : List (S40))) := ⟨_, rfl⟩
 replace H : (some ((⟨#[112]⟩ : ByteArray), y102, y105)) = some (r1, r2, r3) := by first | (rw [hy105]; with_reducible exact H) | (have H2_ := (Option.bind_some _ _).symm.trans H; rw [hy105]; with_reducible exact H2_) | (have H2_ := (Option.bind_some _ _).symm.trans H; with_reducible exact H2_) | with_reducible exact H | (rw [hy105]; exact H) | exact H
 have Ny105 := mk0 hy105
 clear hy105
 simp only [Option.some.injEq, Prod.mk.injEq] at H
 obtain ⟨rfl, rfl, rfl⟩ := H
 go_enter Tryz.func20, Tryz.ntmps20
 go_wp2_with (first | ((with_reducible refine gate_dst (N := 0) rfl ?_); refine box_event ?hg (N := 0) ?hd (cs := #[.string (⟨#[]⟩ : ByteArray), .slice none 0 0, .slice none 0 0]) (t := 25) ?hr ?_; (case hd => rfl); (case hg => rfl); (case hr => first | (go_simp; done) | (go_simp; rfl)); intro gb101 hg w1 hbox hb; have n0_ := mk0 (bst HB.out hb); have n1_ := mk0 (hbox); have n2_ := mk0 (gle hg HB.out); have n3_ := mk0 (gle hg HB.out); clear HB; have HB := n0_; have BK101 := n1_; have GW101 := n2_; have GE101 := n3_; clear n0_ n1_ n2_ n3_; clear hb hbox hg) | ((with_reducible refine gate_dst (N := 4) rfl ?_); refine Kd.R_lit k38 _ 38 ?hg (N := 4) ?hd (xs := ([(⟨1, 0, 0, 0, (⟨#[]⟩ : ByteArray)⟩ : S38), (⟨3, 0, 0, 0, (⟨#[]⟩ : ByteArray)⟩ : S38), (⟨2, 0, 0, 0, (⟨#[]⟩ : ByteArray)⟩ : S38)] : List (S38))) (inner := [.int .i64 1, .int .i64 0, .int .i64 0, .int .i64 0, .string (⟨#[]⟩ : ByteArray), .int .i64 3, .int .i64 0, .int .i64 0, .int .i64 0, .string (⟨#[]⟩ : ByteArray), .int .i64 2, .int .i64 0, .int .i64 0, .int .i64 0, .string (⟨#[]⟩ : ByteArray)]) (ok := fun _ => True) (okp := fun _ => True) ?hr ?hp (fun _ hk => hk) trivial (Below.refl _ _) (Nat.le_refl _) (by simp) ?_; (case hd => rfl); (case hg => rfl); (case hr => first | (go_simp; done) | (go_simp; rfl)); (case hp => exact (Reps.c5 (show Kd.M k38 _ _ _ (⟨1, 0, 0, 0, (⟨#[]⟩ : ByteArray)⟩ : S38) [.int .i64 1, .int .i64 0, .int .i64 0, .int .i64 0, .string (⟨#[]⟩ : ByteArray)] from (k38_mkM _ _ _ (⟨1, 0, 0, 0, (⟨#[]⟩ : ByteArray)⟩ : S38) )) (Reps.c5 (show Kd.M k38 _ _ _ (⟨3, 0, 0, 0, (⟨#[]⟩ : ByteArray)⟩ : S38) [.int .i64 3, .int .i64 0, .int .i64 0, .int .i64 0, .string (⟨#[]⟩ : ByteArray)] from (k38_mkM _ _ _ (⟨3, 0, 0, 0, (⟨#[]⟩ : ByteArray)⟩ : S38) )) (Reps.c5 (show Kd.M k38 _ _ _ (⟨2, 0, 0, 0, (⟨#[]⟩ : ByteArray)⟩ : S38) [.int .i64 2, .int .i64 0, .int .i64 0, .int .i64 0, .string (⟨#[]⟩ : ByteArray)] from (k38_mkM _ _ _ (⟨2, 0, 0, 0, (⟨#[]⟩ : ByteArray)⟩ : S38) )) (Reps.none _ _))))); intro v103 w2 ho3 hb hg_ hnew_; clear hg_ hnew_; (first | rw [← Ny102.out] at ho3 | (simp only [Int.reduceToNat] at ho3; rw [← Ny102.out] at ho3)); have n0_ := mk0 (Kd.R_lower ho3 (below_size (by exact bok HB.out))); have n1_ := mk0 (blk_below (obk BK101.out) hb); have n2_ := mk0 (bst HB.out hb); clear BK101; clear HB; have HO104 := n0_; have BK101 := n1_; have HB := n2_; clear n0_ n1_ n2_; clear hb ho3) | ((with_reducible refine gate_dst (N := 7) rfl ?_); refine Kd.R_lit k40 _ 40 ?hg (N := 7) ?hd (xs := ([(⟨1, 2, 0, 0, (⟨#[]⟩ : ByteArray)⟩ : S40), (⟨2, 3, 0, 0, (⟨#[]⟩ : ByteArray)⟩ : S40)] : List (S40))) (inner := [.int .i64 1, .int .i64 2, .int .i64 0, .int .i64 0, .string (⟨#[]⟩ : ByteArray), .int .i64 2, .int .i64 3, .int .i64 0, .int .i64 0, .string (⟨#[]⟩ : ByteArray)]) (ok := fun _ => True) (okp := fun _ => True) ?hr ?hp (fun _ hk => hk) trivial (Below.refl _ _) (Nat.le_refl _) (by simp) ?_; (case hd => rfl); (case hg => rfl); (case hr => first | (go_simp; done) | (go_simp; rfl)); (case hp => exact (Reps.c5 (show Kd.M k40 _ _ _ (⟨1, 2, 0, 0, (⟨#[]⟩ : ByteArray)⟩ : S40) [.int .i64 1, .int .i64 2, .int .i64 0, .int .i64 0, .string (⟨#[]⟩ : ByteArray)] from (k40_mkM _ _ _ (⟨1, 2, 0, 0, (⟨#[]⟩ : ByteArray)⟩ : S40) )) (Reps.c5 (show Kd.M k40 _ _ _ (⟨2, 3, 0, 0, (⟨#[]⟩ : ByteArray)⟩ : S40) [.int .i64 2, .int .i64 3, .int .i64 0, .int .i64 0, .string (⟨#[]⟩ : ByteArray)] from (k40_mkM _ _ _ (⟨2, 3, 0, 0, (⟨#[]⟩ : ByteArray)⟩ : S40) )) (Reps.none _ _)))); intro v106 w4 ho5 hb hg_ hnew_; clear hg_ hnew_; (first | rw [← Ny105.out] at ho5 | (simp only [Int.reduceToNat] at ho5; rw [← Ny105.out] at ho5)); have n0_ := mk0 (Kd.R_below (by exact rok HO104.out) hb); have n1_ := mk0 (Kd.R_lower ho5 (below_size (by exact bok HB.out))); have n2_ := mk0 (blk_below (obk BK101.out) hb); have n3_ := mk0 (bst HB.out hb); clear HO104; clear BK101; clear HB; have HO104 := n0_; have HO107 := n1_; have BK101 := n2_; have HB := n3_; clear n0_ n1_ n2_ n3_; clear hb ho5; obtain ⟨Ao6, co6, eo6⟩ := Kd.R_slice HO107.out; subst eo6; obtain ⟨Ao7, co7, eo7⟩ := Kd.R_slice HO104.out; subst eo7; obtain ⟨hcz8_0, hcz8_1, hcz8_2, hfz8_0, hfz8_1, hfz8_2⟩ := blk3 BK101.out))
 refine bodyPost_ret (results_cell_row rfl _ _ gb101 25 #[.string (⟨#[112]⟩ : ByteArray), .slice Ao7 y102.length co7, .slice Ao6 y105.length co6] (0, 0) _ rfl (by exact obk (blk_put (obk (blk_put (obk (blk_put (obk BK101.out) 0 _ rfl)) 1 _ rfl)) 2 _ rfl)) Tryz.underlying25 rfl (by kernel_rfl)) rfl ?_
 exact ⟨_, _, by first | rfl | (simp [*, zbe, zbf] <;> rfl), by (with_reducible repeat (first | apply Kd.R_alloc | apply Kd.R_drewN | apply Kd.R_drew)); exact Kd.R_mono (rfar 2 (rfar 1 (rfar 0 (Kd.R_types HO104.out BK101.out (by decide)) (.string (⟨#[112]⟩ : ByteArray))) (.slice Ao7 y102.length co7)) (.slice Ao6 y105.length co6)) (fun _ hk => trivial), by (with_reducible repeat (first | apply Kd.R_alloc | apply Kd.R_drewN | apply Kd.R_drew)); exact Kd.R_mono (rfar 2 (rfar 1 (rfar 0 (Kd.R_types HO107.out BK101.out (by decide)) (.string (⟨#[112]⟩ : ByteArray))) (.slice Ao7 y102.length co7)) (.slice Ao6 y105.length co6)) (fun _ hk => trivial), by exact bok HB.out⟩

/-! ### zaw: function 8 -/
def zaw.f (k : Nat)  : Option (Bool) := (zay.f).bind fun bt108 => ((zbm.f k bt108.1 bt108.2.1 bt108.2.2).bind fun bt116 => (if 1 ≤ (bt108.2.2.length : Int) then ((zbm.f k bt108.1 bt108.2.1 (bt108.2.2.take (1 : Int).toNat)).bind fun bt121 => ((zay.f).bind fun bt123 => (if bt123.2.1.length < 2932031007402 then ((some (bt123.2.1 ++ [(⟨9, 0, 0, 2, (⟨#[82, 47, 80, 84, 49, 83]⟩ : ByteArray)⟩ : S38)] : List (S38))).bind fun y130 => ((zbm.f k bt123.1 y130 bt123.2.2).bind fun bt133 => ((zbr.f k bt123.1 y130 bt123.2.2 2).bind fun t135 => (if bt116.1 = 0 then (if bt116.2 = 0 then (if bt121.1 = 2 then (if bt121.2 = 19 then (if bt133.1 = 4 then (if bt133.2 = 6 then (if (t135.length : Int) = 1 then (if 0 < (t135.length : Int) then (some ((rd t135 0) == 4)) else (none)) else (some false)) else (some false)) else (some false)) else (some false)) else (some false)) else (some false)) else (some false))))) else (none)))) else (none)))
theorem zaw.mono : ∀ k, LeO (zaw.f k ) (zaw.f (k + 1) ) := by
 intro  k
 unfold zaw.f
 repeat' first
   | (with_reducible exact zbm.mono _ _ _ _)
   | (with_reducible exact zbr.mono _ _ _ _ _)
   | (with_reducible exact LeO.refl _)
   | (with_reducible exact LeO.none _)
   | (with_reducible refine LeO.ite ?_ ?_)
   | (with_reducible refine LeO.bind ?_ (fun _ => ?_))
   | exact zbm.mono _ _ _ _
   | exact zbr.mono _ _ _ _ _
   | exact LeO.none _
   | refine LeO.ite ?_ ?_
   | refine LeO.bind ?_ (fun _ => ?_)
theorem zaw.callsT (k : Nat)  (r : Bool) (w : World) (hTab : Tab w) (hr_ : r = true) (h : zaw.f k  = some r) :
  Calls Tryz.prog 8 #[] w fun e w' => e = .returned (.bool r) ∧ Below w.heap.size w w' := by
 have hu25 := Tryz.underlying25
 have hu38 := Tryz.underlying38
 have HB := mk0 (Below.refl w.heap.size w)
 have H : ((zay.f).bind fun bt108 => ((zbm.f k bt108.1 bt108.2.1 bt108.2.2).bind fun bt116 => (if 1 ≤ (bt108.2.2.length : Int) then ((zbm.f k bt108.1 bt108.2.1 (bt108.2.2.take (1 : Int).toNat)).bind fun bt121 => ((zay.f).bind fun bt123 => (if bt123.2.1.length < 2932031007402 then ((some (bt123.2.1 ++ [(⟨9, 0, 0, 2, (⟨#[82, 47, 80, 84, 49, 83]⟩ : ByteArray)⟩ : S38)] : List (S38))).bind fun y130 => ((zbm.f k bt123.1 y130 bt123.2.2).bind fun bt133 => ((zbr.f k bt123.1 y130 bt123.2.2 2).bind fun t135 => (if bt116.1 = 0 then (if bt116.2 = 0 then (if bt121.1 = 2 then (if bt121.2 = 19 then (if bt133.1 = 4 then (if bt133.2 = 6 then (if (t135.length : Int) = 1 then (if 0 < (t135.length : Int) then (some ((rd t135 0) == 4)) else (none)) else (some false)) else (some false)) else (some false)) else (some false)) else (some false)) else (some false)) else (some false))))) else (none)))) else (none)))) = some r := h
 clear h
 replace H := Option.bind_eq_some_iff.mp H
 obtain ⟨⟨t108, t109, t112⟩, A10, H⟩ := H
 replace H : ((zbm.f k t108 t109 t112).bind fun bt116 => (if 1 ≤ (t112.length : Int) then ((zbm.f k t108 t109 (t112.take (1 : Int).toNat)).bind fun bt121 => ((zay.f).bind fun bt123 => (if bt123.2.1.length < 2932031007402 then ((some (bt123.2.1 ++ [(⟨9, 0, 0, 2, (⟨#[82, 47, 80, 84, 49, 83]⟩ : ByteArray)⟩ : S38)] : List (S38))).bind fun y130 => ((zbm.f k bt123.1 y130 bt123.2.2).bind fun bt133 => ((zbr.f k bt123.1 y130 bt123.2.2 2).bind fun t135 => (if bt116.1 = 0 then (if bt116.2 = 0 then (if bt121.1 = 2 then (if bt121.2 = 19 then (if bt133.1 = 4 then (if bt133.2 = 6 then (if (t135.length : Int) = 1 then (if 0 < (t135.length : Int) then (some ((rd t135 0) == 4)) else (none)) else (some false)) else (some false)) else (some false)) else (some false)) else (some false)) else (some false)) else (some false))))) else (none)))) else (none))) = some r := H
 have A1 := mk0 A10
 clear A10
 replace H := Option.bind_eq_some_iff.mp H
 obtain ⟨⟨t116, t117⟩, A20, H⟩ := H
 replace H : (if 1 ≤ (t112.length : Int) then ((zbm.f k t108 t109 (t112.take (1 : Int).toNat)).bind fun bt121 => ((zay.f).bind fun bt123 => (if bt123.2.1.length < 2932031007402 then ((some (bt123.2.1 ++ [(⟨9, 0, 0, 2, (⟨#[82, 47, 80, 84, 49, 83]⟩ : ByteArray)⟩ : S38)] : List (S38))).bind fun y130 => ((zbm.f k bt123.1 y130 bt123.2.2).bind fun bt133 => ((zbr.f k bt123.1 y130 bt123.2.2 2).bind fun t135 => (if t116 = 0 then (if t117 = 0 then (if bt121.1 = 2 then (if bt121.2 = 19 then (if bt133.1 = 4 then (if bt133.2 = 6 then (if (t135.length : Int) = 1 then (if 0 < (t135.length : Int) then (some ((rd t135 0) == 4)) else (none)) else (some false)) else (some false)) else (some false)) else (some false)) else (some false)) else (some false)) else (some false))))) else (none)))) else (none)) = some r := H
 have A2 := mk0 A20
 clear A20
 by_cases c3 : 1 ≤ (t112.length : Int)
 ·
  rw [if_pos c3] at H
  have c3b0 := eq_true c3
  have c3b1 : decide (1 ≤ (t112.length : Int)) = true := decide_eq_true c3
  clear c3
  obtain ⟨y118, hy118⟩ : ∃ y_ : List (S40), y_ = (t112.take (1 : Int).toNat) := ⟨_, rfl⟩
  replace H : ((zbm.f k t108 t109 y118).bind fun bt121 => ((zay.f).bind fun bt123 => (if bt123.2.1.length < 2932031007402 then ((some (bt123.2.1 ++ [(⟨9, 0, 0, 2, (⟨#[82, 47, 80, 84, 49, 83]⟩ : ByteArray)⟩ : S38)] : List (S38))).bind fun y130 => ((zbm.f k bt123.1 y130 bt123.2.2).bind fun bt133 => ((zbr.f k bt123.1 y130 bt123.2.2 2).bind fun t135 => (if t116 = 0 then (if t117 = 0 then (if bt121.1 = 2 then (if bt121.2 = 19 then (if bt133.1 = 4 then (if bt133.2 = 6 then (if (t135.length : Int) = 1 then (if 0 < (t135.length : Int) then (some ((rd t135 0) == 4)) else (none)) else (some false)) else (some false)) else (some false)) else (some false)) else (some false)) else (some false)) else (some false))))) else (none)))) = some r := by first | (rw [hy118]; with_reducible exact H) | (have H2_ := (Option.bind_some _ _).symm.trans H; rw [hy118]; with_reducible exact H2_) | (have H2_ := (Option.bind_some _ _).symm.trans H; with_reducible exact H2_) | with_reducible exact H | (rw [hy118]; exact H) | exact H
  have Ny118 := mk0 hy118
  clear hy118
  replace H := Option.bind_eq_some_iff.mp H
  obtain ⟨⟨t121, t122⟩, A40, H⟩ := H
  replace H : ((zay.f).bind fun bt123 => (if bt123.2.1.length < 2932031007402 then ((some (bt123.2.1 ++ [(⟨9, 0, 0, 2, (⟨#[82, 47, 80, 84, 49, 83]⟩ : ByteArray)⟩ : S38)] : List (S38))).bind fun y130 => ((zbm.f k bt123.1 y130 bt123.2.2).bind fun bt133 => ((zbr.f k bt123.1 y130 bt123.2.2 2).bind fun t135 => (if t116 = 0 then (if t117 = 0 then (if t121 = 2 then (if t122 = 19 then (if bt133.1 = 4 then (if bt133.2 = 6 then (if (t135.length : Int) = 1 then (if 0 < (t135.length : Int) then (some ((rd t135 0) == 4)) else (none)) else (some false)) else (some false)) else (some false)) else (some false)) else (some false)) else (some false)) else (some false))))) else (none))) = some r := H
  have A4 := mk0 A40
  clear A40
  replace H := Option.bind_eq_some_iff.mp H
  obtain ⟨⟨t123, t124, t127⟩, A50, H⟩ := H
  replace H : (if t124.length < 2932031007402 then ((some (t124 ++ [(⟨9, 0, 0, 2, (⟨#[82, 47, 80, 84, 49, 83]⟩ : ByteArray)⟩ : S38)] : List (S38))).bind fun y130 => ((zbm.f k t123 y130 t127).bind fun bt133 => ((zbr.f k t123 y130 t127 2).bind fun t135 => (if t116 = 0 then (if t117 = 0 then (if t121 = 2 then (if t122 = 19 then (if bt133.1 = 4 then (if bt133.2 = 6 then (if (t135.length : Int) = 1 then (if 0 < (t135.length : Int) then (some ((rd t135 0) == 4)) else (none)) else (some false)) else (some false)) else (some false)) else (some false)) else (some false)) else (some false)) else (some false))))) else (none)) = some r := H
  have A5 := mk0 A50
  clear A50
  by_cases c6 : t124.length < 2932031007402
  ·
   rw [if_pos c6] at H
   have LMc6 := mk0 c6
   clear c6
   obtain ⟨y130, hy130⟩ : ∃ y_ : List (S38), y_ = (t124 ++ [(⟨9, 0, 0, 2, (⟨#[82, 47, 80, 84, 49, 83]⟩ : ByteArray)⟩ : S38)]) := ⟨_, rfl⟩
   replace H : ((zbm.f k t123 y130 t127).bind fun bt133 => ((zbr.f k t123 y130 t127 2).bind fun t135 => (if t116 = 0 then (if t117 = 0 then (if t121 = 2 then (if t122 = 19 then (if bt133.1 = 4 then (if bt133.2 = 6 then (if (t135.length : Int) = 1 then (if 0 < (t135.length : Int) then (some ((rd t135 0) == 4)) else (none)) else (some false)) else (some false)) else (some false)) else (some false)) else (some false)) else (some false)) else (some false)))) = some r := by first | (rw [hy130]; with_reducible exact H) | (have H2_ := (Option.bind_some _ _).symm.trans H; rw [hy130]; with_reducible exact H2_) | (have H2_ := (Option.bind_some _ _).symm.trans H; with_reducible exact H2_) | with_reducible exact H | (rw [hy130]; exact H) | exact H
   have Ny130 := mk0 hy130
   clear hy130
   replace H := Option.bind_eq_some_iff.mp H
   obtain ⟨⟨t133, t134⟩, A70, H⟩ := H
   replace H : ((zbr.f k t123 y130 t127 2).bind fun t135 => (if t116 = 0 then (if t117 = 0 then (if t121 = 2 then (if t122 = 19 then (if t133 = 4 then (if t134 = 6 then (if (t135.length : Int) = 1 then (if 0 < (t135.length : Int) then (some ((rd t135 0) == 4)) else (none)) else (some false)) else (some false)) else (some false)) else (some false)) else (some false)) else (some false)) else (some false))) = some r := H
   have A7 := mk0 A70
   clear A70
   replace H := Option.bind_eq_some_iff.mp H
   obtain ⟨t135, A80, H⟩ := H
   replace H : (if t116 = 0 then (if t117 = 0 then (if t121 = 2 then (if t122 = 19 then (if t133 = 4 then (if t134 = 6 then (if (t135.length : Int) = 1 then (if 0 < (t135.length : Int) then (some ((rd t135 0) == 4)) else (none)) else (some false)) else (some false)) else (some false)) else (some false)) else (some false)) else (some false)) else (some false)) = some r := H
   have A8 := mk0 A80
   clear A80
   by_cases c9 : t116 = 0
   ·
    rw [if_pos c9] at H
    have c9b0 : (t116 == 0) = true := beq_iff_eq.mpr c9
    have c9b1 : (t116 != 0) = false := bne_eq_false_iff_eq.mpr c9
    clear c9
    by_cases c10 : t117 = 0
    ·
     rw [if_pos c10] at H
     have c10b0 : (t117 == 0) = true := beq_iff_eq.mpr c10
     have c10b1 : (t117 != 0) = false := bne_eq_false_iff_eq.mpr c10
     clear c10
     by_cases c11 : t121 = 2
     ·
      rw [if_pos c11] at H
      have c11b0 : (t121 == 2) = true := beq_iff_eq.mpr c11
      have c11b1 : (t121 != 2) = false := bne_eq_false_iff_eq.mpr c11
      clear c11
      by_cases c12 : t122 = 19
      ·
       rw [if_pos c12] at H
       have c12b0 : (t122 == 19) = true := beq_iff_eq.mpr c12
       have c12b1 : (t122 != 19) = false := bne_eq_false_iff_eq.mpr c12
       clear c12
       by_cases c13 : t133 = 4
       ·
        rw [if_pos c13] at H
        have c13b0 : (t133 == 4) = true := beq_iff_eq.mpr c13
        have c13b1 : (t133 != 4) = false := bne_eq_false_iff_eq.mpr c13
        clear c13
        by_cases c14 : t134 = 6
        ·
         rw [if_pos c14] at H
         have c14b0 : (t134 == 6) = true := beq_iff_eq.mpr c14
         have c14b1 : (t134 != 6) = false := bne_eq_false_iff_eq.mpr c14
         clear c14
         by_cases c15 : (t135.length : Int) = 1
         ·
          rw [if_pos c15] at H
          have c15b0 : ((t135.length : Int) == 1) = true := beq_iff_eq.mpr c15
          have c15b1 : ((t135.length : Int) != 1) = false := bne_eq_false_iff_eq.mpr c15
          clear c15
          by_cases c16 : 0 < (t135.length : Int)
          ·
           rw [if_pos c16] at H
           have c16b0 : decide (0 < (t135.length : Int)) = true := decide_eq_true c16
           have c16b1 : decide (0 < t135.length) = true := decide_eq_true (by omega)
           clear c16
           obtain rfl := Option.some.inj H
           go_enter Tryz.func8, Tryz.ntmps8
           go_wp2_with (first | ((with_reducible refine gate_callee (f := 20) rfl ?_); refine goesL_ (some 9) rfl rfl Tryz.func20 (by kernel_rfl) rfl #[] rfl (by (try simp only [List.map_toArray, List.map_cons, List.map_nil]); first | done | rfl | (simp only [List.length_drop, List.length_take]; rfl)) ?_; (with_reducible refine (zay.calls  t108 t109 t112 _ A1.out).mono ?_); rintro e w17 ⟨v110, v113, rfl, ho0, ho1, hb⟩; refine ⟨_, rfl, ?_⟩; have n0_ := mk0 (Kd.R_lower ho0 (below_size (by exact bok HB.out))); have n1_ := mk0 (Kd.R_lower ho1 (below_size (by exact bok HB.out))); have n2_ := mk0 (bst HB.out hb); clear HB; have HO111 := n0_; have HO114 := n1_; have HB := n2_; clear n0_ n1_ n2_; (try clear hb); (try clear ho0); (try clear ho1)) | ((with_reducible refine gate_dst (N := 1) rfl ?_); (try (refine gate_guard (by rfl) ?_; dsimp only)); refine box_event ?hg (N := 1) ?hd (cs := #[.string (⟨#[]⟩ : ByteArray), .slice none 0 0, .slice none 0 0]) (t := 25) ?hr ?_; (case hd => rfl); (case hg => rfl); (case hr => first | (go_simp; done) | (go_simp; rfl)); intro gb115 hg w18 hbox hb; have n0_ := mk0 (Kd.R_below (by exact rok HO111.out) hb); have n1_ := mk0 (Kd.R_below (by exact rok HO114.out) hb); have n2_ := mk0 (bst HB.out hb); have n3_ := mk0 (hbox); have n4_ := mk0 (gle hg HB.out); have n5_ := mk0 (gle hg HB.out); clear HO111; clear HO114; clear HB; have HO111 := n0_; have HO114 := n1_; have HB := n2_; have BK115 := n3_; have GW115 := n4_; have GE115 := n5_; clear n0_ n1_ n2_ n3_ n4_ n5_; clear hb hbox hg; obtain ⟨hcz19_0, hcz19_1, hcz19_2, hfz19_0, hfz19_1, hfz19_2⟩ := blk3 BK115.out; obtain ⟨Ao20, co20, eo20⟩ := Kd.R_slice HO111.out; subst eo20; obtain ⟨Ao21, co21, eo21⟩ := Kd.R_slice HO114.out; subst eo21) | ((with_reducible refine gate_callee (f := 9) rfl ?_); refine goesL_ (some 12) rfl rfl Tryz.func9 (by kernel_rfl) rfl #[.agg #[.string t108, .slice Ao20 t109.length co20, .slice Ao21 t112.length co21]] rfl (by (try simp only [List.map_toArray, List.map_cons, List.map_nil]); first | done | rfl | (simp only [List.length_drop, List.length_take]; rfl)) ?_; (with_reducible refine (zbm.calls k t108 _ _ t109 _ _ t112 t116 t117 _ (Tab.below hTab (by exact bok HB.out))  ?side1 ?side2 ?side3 ?side4 A2.out).mono ?_); (case side1 => refine (Kd.R_reads' (e := 38) (base := w.heap.size) (ok := fun k_ => True) (n := t109.length) (c := co20) ?_).2.2; exact (by exact rok (Kd.R_mono (rfar 2 (rfar 1 (rfar 0 (Kd.R_types HO111.out BK115.out (by decide)) (.string t108)) (.slice Ao20 t109.length co20)) (.slice Ao21 t112.length co21)) (fun _ h_ => h_.1)))); (case side2 => exact (Kd.R_reads' HO111.out).2.1); (case side3 => refine (Kd.R_reads' (e := 40) (base := w.heap.size) (ok := fun k_ => True) (n := t112.length) (c := co21) ?_).2.2; exact (by exact rok (Kd.R_mono (rfar 2 (rfar 1 (rfar 0 (Kd.R_types HO114.out BK115.out (by decide)) (.string t108)) (.slice Ao20 t109.length co20)) (.slice Ao21 t112.length co21)) (fun _ h_ => h_.1)))); (case side4 => exact (Kd.R_reads' HO114.out).2.1); rintro e w22 ⟨rfl, hb⟩; refine ⟨_, rfl, ?_⟩; have n0_ := mk0 (Kd.R_below (by exact rok (Kd.R_mono (rfar 2 (rfar 1 (rfar 0 (Kd.R_types HO111.out BK115.out (by decide)) (.string t108)) (.slice Ao20 t109.length co20)) (.slice Ao21 t112.length co21)) (fun _ h_ => h_.1))) hb); have n1_ := mk0 (Kd.R_below (by exact rok (Kd.R_mono (rfar 2 (rfar 1 (rfar 0 (Kd.R_types HO114.out BK115.out (by decide)) (.string t108)) (.slice Ao20 t109.length co20)) (.slice Ao21 t112.length co21)) (fun _ h_ => h_.1))) hb); have n2_ := mk0 (blk_below (g := gb115) (o := .cells #[.string t108, .slice Ao20 t109.length co20, .slice Ao21 t112.length co21] 25 (0, 0)) (by exact obk (blk_put (obk (blk_put (obk (blk_put (obk BK115.out) 0 _ rfl)) 1 _ rfl)) 2 _ rfl)) hb); have n3_ := mk0 (bst HB.out hb); clear HO111; clear HO114; clear BK115; clear HB; have HO111 := n0_; have HO114 := n1_; have BK115 := n2_; have HB := n3_; clear n0_ n1_ n2_ n3_; (try clear hb); obtain ⟨hcz23_0, hcz23_1, hcz23_2, hfz23_0, hfz23_1, hfz23_2⟩ := blk3 BK115.out; have q24 : (1 : Int) ≤ ((t112.length : Int) : Int) := of_decide_eq_true (by assumption); obtain ⟨i024, hi024, _, hsz24, _⟩ := info_parts info40; have hcut24 := cut_to (P := Tryz.prog) 23 40 .i64 Tryz.underlying23 hi024 Ao21 t112.length co21 1 (by omega) q24 (Kd.R_reads' HO114.out).2.1; have hr24 := Kd.R_take (m := (1 : Int).toNat) HO114.out (by omega); have hy24 : y118.length = (1 : Int).toNat := (by rw [Ny118.out, List.length_take]; omega); rw [← Ny118.out] at hr24; rw [← hy24] at hr24 hcut24; clear hy24 hi024 hsz24 HO114; have HO120 := mk0 hr24; clear hr24; replace q24 := eq_true q24) | ((with_reducible refine gate_callee (f := 9) rfl ?_); refine goesL_ (some 21) rfl rfl Tryz.func9 (by kernel_rfl) rfl #[.agg #[.string t108, .slice Ao20 t109.length co20, .slice Ao21 y118.length co21]] rfl (by (try simp only [List.map_toArray, List.map_cons, List.map_nil]); first | done | rfl | (simp only [List.length_drop, List.length_take]; rfl)) ?_; (with_reducible refine (zbm.calls k t108 _ _ t109 _ _ y118 t121 t122 _ (Tab.below hTab (by exact bok HB.out))  ?side1 ?side2 ?side3 ?side4 A4.out).mono ?_); (case side1 => refine (Kd.R_reads' (e := 38) (base := w.heap.size) (ok := fun k_ => True) (n := t109.length) (c := co20) ?_).2.2; exact (by exact rok (Kd.R_mono (rfar 2 (Kd.R_types HO111.out BK115.out (by decide)) (.slice Ao21 y118.length co21)) (fun _ h_ => h_.1)))); (case side2 => exact (Kd.R_reads' HO111.out).2.1); (case side3 => refine (Kd.R_reads' (e := 40) (base := w.heap.size) (ok := fun k_ => True) (n := y118.length) (c := co21) ?_).2.2; exact (by exact rok (Kd.R_mono (rfar 2 (Kd.R_types HO120.out BK115.out (by decide)) (.slice Ao21 y118.length co21)) (fun _ h_ => h_.1)))); (case side4 => exact (Kd.R_reads' HO120.out).2.1); rintro e w25 ⟨rfl, hb⟩; refine ⟨_, rfl, ?_⟩; have n0_ := mk0 (Kd.R_below (by exact rok (Kd.R_mono (rfar 2 (Kd.R_types HO111.out BK115.out (by decide)) (.slice Ao21 y118.length co21)) (fun _ h_ => h_.1))) hb); have n1_ := mk0 (Kd.R_below (by exact rok (Kd.R_mono (rfar 2 (Kd.R_types HO120.out BK115.out (by decide)) (.slice Ao21 y118.length co21)) (fun _ h_ => h_.1))) hb); have n2_ := mk0 (blk_below (g := gb115) (o := .cells #[.string t108, .slice Ao20 t109.length co20, .slice Ao21 y118.length co21] 25 (0, 0)) (by exact obk (blk_put (obk BK115.out) 2 _ rfl)) hb); have n3_ := mk0 (bst HB.out hb); clear HO111; clear HO120; clear BK115; clear HB; have HO111 := n0_; have HO120 := n1_; have BK115 := n2_; have HB := n3_; clear n0_ n1_ n2_ n3_; (try clear hb)) | ((with_reducible refine gate_callee (f := 20) rfl ?_); refine goesL_ (some 24) rfl rfl Tryz.func20 (by kernel_rfl) rfl #[] rfl (by (try simp only [List.map_toArray, List.map_cons, List.map_nil]); first | done | rfl | (simp only [List.length_drop, List.length_take]; rfl)) ?_; (with_reducible refine (zay.calls  t123 t124 t127 _ A5.out).mono ?_); rintro e w26 ⟨v125, v128, rfl, ho0, ho1, hb⟩; refine ⟨_, rfl, ?_⟩; have n0_ := mk0 (Kd.R_elder' (by exact rok HO111.out) (Kd.R_base ho0) hb); have n1_ := mk0 (Kd.R_elder' (by exact rok HO120.out) (Kd.R_base ho1) hb); have n2_ := mk0 (Kd.R_lower (Kd.R_new' ho0 (Kd.R_lt (by exact rok HO111.out))) (below_size (by exact bok HB.out))); have n3_ := mk0 (Kd.R_lower (Kd.R_new' ho1 (Kd.R_lt (by exact rok HO120.out))) (below_size (by exact bok HB.out))); have n4_ := mk0 (blk_below (obk BK115.out) hb); have n5_ := mk0 (bst HB.out hb); clear HO111; clear HO120; clear BK115; clear HB; have HO111 := n0_; have HO120 := n1_; have HO126 := n2_; have HO129 := n3_; have BK115 := n4_; have HB := n5_; clear n0_ n1_ n2_ n3_ n4_ n5_; (try clear hb); (try clear ho0); (try clear ho1); obtain ⟨hcz27_0, hcz27_1, hcz27_2, hfz27_0, hfz27_1, hfz27_2⟩ := blk3 BK115.out; obtain ⟨Ao28, co28, eo28⟩ := Kd.R_slice HO126.out; subst eo28; obtain ⟨Ao29, co29, eo29⟩ := Kd.R_slice HO129.out; subst eo29) | ((with_reducible refine gate_builtin (b := .append) (xs := #[.tmp 26, .tmp 28]) rfl ?_); (try (refine gate_guard (by rfl) ?_; dsimp only)); at_builtin; refine Kd.R_append k38 (w0 := w) w.heap.size rfl (.tmp 26) (.tmp 28) 22 38 (.agg #[(.int .i64 0), (.int .i64 0), (.int .i64 0), (.int .i64 0), (.string ⟨#[]⟩)]) 48 rfl Tryz.underlying22 info38 rfl (by decide) (by omega) (.slice Ao28 t124.length co28) t124 (⟨9, 0, 0, 2, (⟨#[82, 47, 80, 84, 49, 83]⟩ : ByteArray)⟩ : S38) [.int .i64 9, .int .i64 0, .int .i64 0, .int .i64 2, .string (⟨#[82, 47, 80, 84, 49, 83]⟩ : ByteArray)] (fun k_ => some k_ ≠ (.slice Ao20 t109.length co20 : Value).ownBlock) (fun _ => False) rfl (by first | (go_simp; done) | (go_simp; rfl)) ?aP (fun _ hk => hk.elim) ?aF ?aO ?aB ?aS ?aL ?_; (case aP => exact k38_mkM _ _ _ (⟨9, 0, 0, 2, (⟨#[82, 47, 80, 84, 49, 83]⟩ : ByteArray)⟩ : S38)); (case aB => exact (by exact bok HB.out)); (case aF => exact (fun k_ hk => Kd.fresh' (Kd.R_lt (by exact rok (Kd.R_mono (rfar 2 (rfar 1 (rfar 0 (Kd.R_types HO111.out BK115.out (by decide)) (.string t123)) (.slice Ao28 t124.length co28)) (.slice Ao29 t127.length co29)) (fun _ h_ => h_.1)))) k_ hk)); (case aO => exact (by (with_reducible repeat (first | apply Kd.R_alloc | apply Kd.R_drewN | apply Kd.R_drew)); exact Kd.R_mono (rfar 2 (rfar 1 (rfar 0 (Kd.R_types HO126.out BK115.out (by decide)) (.string t123)) (.slice Ao28 t124.length co28)) (.slice Ao29 t127.length co29)) (fun _ hk => hk.1.2))); (case aS => exact (below_size (by exact bok HB.out))); (case aL => have := LMc6.out; omega); intro v131 w30 ho hb hg hat; rw [← Ny130.out] at ho; have n0_ := mk0 (Kd.R_after (ok := (fun _ => True)) (by (with_reducible repeat (first | apply Kd.R_alloc | apply Kd.R_drewN | apply Kd.R_drew)); exact Kd.R_mono (rfar 2 (rfar 1 (rfar 0 (Kd.R_types HO111.out BK115.out (by decide)) (.string t123)) (.slice Ao28 t124.length co28)) (.slice Ao29 t127.length co29)) (fun _ hk => ⟨trivial, hk.1.2⟩)) hg hat); have n1_ := mk0 (Kd.R_over' (by exact rok (Kd.R_mono (rfar 2 (rfar 1 (rfar 0 (Kd.R_types HO120.out BK115.out (by decide)) (.string t123)) (.slice Ao28 t124.length co28)) (.slice Ao29 t127.length co29)) (fun _ h_ => h_.1))) (Kd.R_typed (by exact rok (Kd.R_mono (rfar 2 (rfar 1 (rfar 0 (Kd.R_types HO126.out BK115.out (by decide)) (.string t123)) (.slice Ao28 t124.length co28)) (.slice Ao29 t127.length co29)) (fun _ h_ => h_.1)))) (by decide) hg); have n2_ := mk0 (blk_grown (g := gb115) (o := .cells #[.string t123, .slice Ao28 t124.length co28, .slice Ao29 t127.length co29] 25 (0, 0)) (by exact obk (blk_put (obk (blk_put (obk (blk_put (obk BK115.out) 0 _ rfl)) 1 _ rfl)) 2 _ rfl)) hg (Kd.R_ne HO126.out BK115.out (by decide))); have n3_ := mk0 (Kd.R_over' (by exact rok (Kd.R_mono (rfar 2 (rfar 1 (rfar 0 (Kd.R_types HO129.out BK115.out (by decide)) (.string t123)) (.slice Ao28 t124.length co28)) (.slice Ao29 t127.length co29)) (fun _ h_ => h_.1))) (Kd.R_typed (by exact rok (Kd.R_mono (rfar 2 (rfar 1 (rfar 0 (Kd.R_types HO126.out BK115.out (by decide)) (.string t123)) (.slice Ao28 t124.length co28)) (.slice Ao29 t127.length co29)) (fun _ h_ => h_.1)))) (by decide) hg); have n4_ := mk0 (hb); have n5_ := mk0 (ho); clear HO111; clear HO120; clear BK115; clear HO129; clear HB; clear HO126; have HO111 := n0_; have HO120 := n1_; have BK115 := n2_; have HO129 := n3_; have HB := n4_; have HO132 := n5_; clear n0_ n1_ n2_ n3_ n4_ n5_; clear ho hb hg hat; obtain ⟨Ao31, co31, eo31⟩ := Kd.R_slice HO132.out; subst eo31; obtain ⟨hcz32_0, hcz32_1, hcz32_2, hfz32_0, hfz32_1, hfz32_2⟩ := blk3 BK115.out) | ((with_reducible refine gate_callee (f := 9) rfl ?_); refine goesL_ (some 33) rfl rfl Tryz.func9 (by kernel_rfl) rfl #[.agg #[.string t123, .slice Ao31 y130.length co31, .slice Ao29 t127.length co29]] rfl (by (try simp only [List.map_toArray, List.map_cons, List.map_nil]); first | done | rfl | (simp only [List.length_drop, List.length_take]; rfl)) ?_; (with_reducible refine (zbm.calls k t123 _ _ y130 _ _ t127 t133 t134 _ (Tab.below hTab (by exact bok HB.out))  ?side1 ?side2 ?side3 ?side4 A7.out).mono ?_); (case side1 => refine (Kd.R_reads' (e := 38) (base := w.heap.size) (ok := fun k_ => some k_ ≠ (.slice Ao20 t109.length co20 : Value).ownBlock) (n := y130.length) (c := co31) ?_).2.2; exact (by exact rok (Kd.R_mono (rfar 1 (Kd.R_types HO132.out BK115.out (by decide)) (.slice Ao31 y130.length co31)) (fun _ h_ => h_.1)))); (case side2 => exact (Kd.R_reads' HO132.out).2.1); (case side3 => refine (Kd.R_reads' (e := 40) (base := w.heap.size) (ok := fun k_ => (True ∧ some k_ ≠ (.slice Ao21 y118.length co21 : Value).ownBlock)) (n := t127.length) (c := co29) ?_).2.2; exact (by exact rok (Kd.R_mono (rfar 1 (Kd.R_types HO129.out BK115.out (by decide)) (.slice Ao31 y130.length co31)) (fun _ h_ => h_.1)))); (case side4 => exact (Kd.R_reads' HO129.out).2.1); rintro e w33 ⟨rfl, hb⟩; refine ⟨_, rfl, ?_⟩; have n0_ := mk0 (Kd.R_below (by exact rok (Kd.R_mono (rfar 1 (Kd.R_types HO111.out BK115.out (by decide)) (.slice Ao31 y130.length co31)) (fun _ h_ => h_.1))) hb); have n1_ := mk0 (Kd.R_below (by exact rok (Kd.R_mono (rfar 1 (Kd.R_types HO120.out BK115.out (by decide)) (.slice Ao31 y130.length co31)) (fun _ h_ => h_.1))) hb); have n2_ := mk0 (Kd.R_below (by exact rok (Kd.R_mono (rfar 1 (Kd.R_types HO129.out BK115.out (by decide)) (.slice Ao31 y130.length co31)) (fun _ h_ => h_.1))) hb); have n3_ := mk0 (Kd.R_below (by exact rok (Kd.R_mono (rfar 1 (Kd.R_types HO132.out BK115.out (by decide)) (.slice Ao31 y130.length co31)) (fun _ h_ => h_.1))) hb); have n4_ := mk0 (blk_below (g := gb115) (o := .cells #[.string t123, .slice Ao31 y130.length co31, .slice Ao29 t127.length co29] 25 (0, 0)) (by exact obk (blk_put (obk BK115.out) 1 _ rfl)) hb); have n5_ := mk0 (bst HB.out hb); clear HO111; clear HO120; clear HO129; clear HO132; clear BK115; clear HB; have HO111 := n0_; have HO120 := n1_; have HO129 := n2_; have HO132 := n3_; have BK115 := n4_; have HB := n5_; clear n0_ n1_ n2_ n3_ n4_ n5_; (try clear hb); obtain ⟨hcz34_0, hcz34_1, hcz34_2, hfz34_0, hfz34_1, hfz34_2⟩ := blk3 BK115.out) | ((with_reducible refine gate_callee (f := 18) rfl ?_); refine goesL_ (some 37) rfl rfl Tryz.func18 (by kernel_rfl) rfl #[.agg #[.string t123, .slice Ao31 y130.length co31, .slice Ao29 t127.length co29], .int .i64 2] rfl (by (try simp only [List.map_toArray, List.map_cons, List.map_nil]); first | done | rfl | (simp only [List.length_drop, List.length_take]; rfl)) ?_; (with_reducible refine (zbr.calls k t123 _ _ y130 _ _ t127 2 t135 _ ?side1 ?side2 ?side3 ?side4 A8.out).mono ?_); (case side1 => repeat (first | exact (Kd.R_reads' HO132.out).2.2 | (with_reducible refine Kd.C_alloc ?_ _) | (with_reducible refine Kd.C_drewN ?_ _) | (with_reducible refine Kd.C_drew ?_))); (case side2 => exact (Kd.R_reads' HO132.out).2.1); (case side3 => repeat (first | exact (Kd.R_reads' HO129.out).2.2 | (with_reducible refine Kd.C_alloc ?_ _) | (with_reducible refine Kd.C_drewN ?_ _) | (with_reducible refine Kd.C_drew ?_))); (case side4 => exact (Kd.R_reads' HO129.out).2.1); rintro e w35 ⟨v136, rfl, ho0, hb⟩; refine ⟨_, rfl, ?_⟩; have n0_ := mk0 (Kd.R_below (by exact rok HO111.out) hb); have n1_ := mk0 (Kd.R_below (by exact rok HO120.out) hb); have n2_ := mk0 (Kd.R_below (by exact rok HO129.out) hb); have n3_ := mk0 (Kd.R_below (by exact rok HO132.out) hb); have n4_ := mk0 (Kd.R_lower ho0 (below_size (by exact bok HB.out))); have n5_ := mk0 (blk_below (obk BK115.out) hb); have n6_ := mk0 (bst HB.out hb); clear HO111; clear HO120; clear HO129; clear HO132; clear BK115; clear HB; have HO111 := n0_; have HO120 := n1_; have HO129 := n2_; have HO132 := n3_; have HO137 := n4_; have BK115 := n5_; have HB := n6_; clear n0_ n1_ n2_ n3_ n4_ n5_ n6_; (try clear hb); (try clear ho0); obtain ⟨Ao36, co36, eo36⟩ := Kd.R_slice HO137.out; subst eo36; have p138 : 0 ≤ (0 : Int) := (by omega); have q138 : 0 < (t135.length : Int) := of_decide_eq_true (by assumption); obtain ⟨ad138, e138, hx138_0⟩ := Kd.at_int (Kd.R_reads' HO137.out).2.2 0 p138 q138; cases e138; have qi138 : (0 < t135.length) = True := eq_true (by omega); (try rw [show ((0 : Int)).toNat = 0 from rfl] at hx138_0); (try rw [Addr.add_zero'] at hx138_0); replace p138 := eq_true p138; replace q138 := eq_true q138))
           go_ret
           exact ⟨by first | rfl | (simp [*, zbe, zbf] <;> rfl) | (simp [zbe, zbf]; exact isEmpty_ne _), by exact bok HB.out⟩
          ·
           rw [if_neg c16] at H
           exact absurd H (by simp)
         ·
          rw [if_neg c15] at H
          exact absurd (Option.some.inj H) (by rw [hr_]; decide)
        ·
         rw [if_neg c14] at H
         exact absurd (Option.some.inj H) (by rw [hr_]; decide)
       ·
        rw [if_neg c13] at H
        exact absurd (Option.some.inj H) (by rw [hr_]; decide)
      ·
       rw [if_neg c12] at H
       exact absurd (Option.some.inj H) (by rw [hr_]; decide)
     ·
      rw [if_neg c11] at H
      exact absurd (Option.some.inj H) (by rw [hr_]; decide)
    ·
     rw [if_neg c10] at H
     exact absurd (Option.some.inj H) (by rw [hr_]; decide)
   ·
    rw [if_neg c9] at H
    exact absurd (Option.some.inj H) (by rw [hr_]; decide)
  ·
   rw [if_neg c6] at H
   exact absurd H (by simp)
 ·
  rw [if_neg c3] at H
  exact absurd H (by simp)


theorem zaw.ok : zaw.f 200 = some true := by kernel_rfl
theorem zaw.calls (k : Nat)  (r : Bool) (w : World) (hTab : Tab w) (h : zaw.f k  = some r) :
  Calls Tryz.prog 8 #[] w fun e w' => e = .returned (.bool r) ∧ Below w.heap.size w w' :=
 zaw.callsT k r w hTab (by have e1 := more_rounds (fun k => zaw.mono k) k 200 r h; have e2 := more_rounds (fun k => zaw.mono k) 200 k true zaw.ok; rw [Nat.add_comm] at e2; rw [e1] at e2; exact Option.some.inj e2) h
/-! ### zax: function 3 -/
def zax.f (k : Nat) (a0_0 : ByteArray) (l0_1 : List (S38)) (l0_2 : List (S40)) : Option (Bool) := (zai.f k a0_0 l0_1 l0_2).bind fun t140 => (if t140 = true then ((zbm.f k a0_0 l0_1 l0_2).bind fun bt141 => ((zac.f k a0_0 l0_1 l0_2).bind fun bt143 => (if bt141.1 = bt143.1 then (if bt141.2 = bt143.2 then ((zaw.f k).bind fun t145 => (some t145)) else (some false)) else (some false)))) else ((zaw.f k).bind fun t146 => (some t146)))
theorem zax.calls (k : Nat) (a0_0 : ByteArray) (A0_1 : Option Addr) (c0_1 : Nat) (l0_1 : List (S38)) (A0_2 : Option Addr) (c0_2 : Nat) (l0_2 : List (S40)) (r : Bool) (w : World) (hTab : Tab w) (hr0_1 : Kd.C k38 w A0_1 l0_1.length l0_1) (hc0_1 : l0_1.length ≤ c0_1) (hr0_2 : Kd.C k40 w A0_2 l0_2.length l0_2) (hc0_2 : l0_2.length ≤ c0_2) (hr_ : r = true) (h : zax.f k a0_0 l0_1 l0_2 = some r) :
  Calls Tryz.prog 3 #[.agg #[.string a0_0, .slice A0_1 l0_1.length c0_1, .slice A0_2 l0_2.length c0_2]] w fun e w' => e = .returned (.bool r) ∧ Below w.heap.size w w' := by
 have hu25 := Tryz.underlying25
 have HR0_1 := mk0 hr0_1
 have HC0_1 := mk0 hc0_1
 clear hr0_1 hc0_1
 have HR0_2 := mk0 hr0_2
 have HC0_2 := mk0 hc0_2
 clear hr0_2 hc0_2
 have HB := mk0 (Below.refl w.heap.size w)
 have H : ((zai.f k a0_0 l0_1 l0_2).bind fun t140 => (if t140 = true then ((zbm.f k a0_0 l0_1 l0_2).bind fun bt141 => ((zac.f k a0_0 l0_1 l0_2).bind fun bt143 => (if bt141.1 = bt143.1 then (if bt141.2 = bt143.2 then ((zaw.f k).bind fun t145 => (some t145)) else (some false)) else (some false)))) else ((zaw.f k).bind fun t146 => (some t146)))) = some r := h
 clear h
 replace H := Option.bind_eq_some_iff.mp H
 obtain ⟨t140, A20, H⟩ := H
 replace H : (if t140 = true then ((zbm.f k a0_0 l0_1 l0_2).bind fun bt141 => ((zac.f k a0_0 l0_1 l0_2).bind fun bt143 => (if bt141.1 = bt143.1 then (if bt141.2 = bt143.2 then ((zaw.f k).bind fun t145 => (some t145)) else (some false)) else (some false)))) else ((zaw.f k).bind fun t146 => (some t146))) = some r := H
 have A2 := mk0 A20
 clear A20
 by_cases c3 : t140 = true
 ·
  subst c3
  have H1 : ((zbm.f k a0_0 l0_1 l0_2).bind fun bt141 => ((zac.f k a0_0 l0_1 l0_2).bind fun bt143 => (if bt141.1 = bt143.1 then (if bt141.2 = bt143.2 then ((zaw.f k).bind fun t145 => (some t145)) else (some false)) else (some false)))) = some r := by rw [if_pos rfl] at H; exact H
  clear H
  have H := H1
  clear H1
  replace H := Option.bind_eq_some_iff.mp H
  obtain ⟨⟨t141, t142⟩, A40, H⟩ := H
  replace H : ((zac.f k a0_0 l0_1 l0_2).bind fun bt143 => (if t141 = bt143.1 then (if t142 = bt143.2 then ((zaw.f k).bind fun t145 => (some t145)) else (some false)) else (some false))) = some r := H
  have A4 := mk0 A40
  clear A40
  replace H := Option.bind_eq_some_iff.mp H
  obtain ⟨⟨t143, t144⟩, A50, H⟩ := H
  replace H : (if t141 = t143 then (if t142 = t144 then ((zaw.f k).bind fun t145 => (some t145)) else (some false)) else (some false)) = some r := H
  have A5 := mk0 A50
  clear A50
  by_cases c6 : t141 = t143
  ·
   rw [if_pos c6] at H
   have c6b0 : (t141 == t143) = true := beq_iff_eq.mpr c6
   have c6b1 : (t141 != t143) = false := bne_eq_false_iff_eq.mpr c6
   clear c6
   by_cases c7 : t142 = t144
   ·
    rw [if_pos c7] at H
    have c7b0 : (t142 == t144) = true := beq_iff_eq.mpr c7
    have c7b1 : (t142 != t144) = false := bne_eq_false_iff_eq.mpr c7
    clear c7
    replace H := Option.bind_eq_some_iff.mp H
    obtain ⟨t145, A80, H⟩ := H
    replace H : (some t145) = some r := H
    have A8 := mk0 A80
    clear A80
    obtain rfl := Option.some.inj H
    go_enter Tryz.func3, Tryz.ntmps3
    go_wp2_with (first | ((with_reducible refine gate_dst (N := 1) rfl ?_); refine box_event ?hg (N := 1) ?hd (cs := #[.string a0_0, .slice A0_1 l0_1.length c0_1, .slice A0_2 l0_2.length c0_2]) (t := 25) ?hr ?_; (case hd => rfl); (case hg => rfl); (case hr => first | (go_simp; done) | (go_simp; rfl)); intro gb139 hg w9 hbox hb; have n0_ := mk0 (bst HB.out hb); have n1_ := mk0 (hbox); have n2_ := mk0 (gle hg HB.out); have n3_ := mk0 (gle hg HB.out); clear HB; have HB := n0_; have BK139 := n1_; have GW139 := n2_; have GE139 := n3_; clear n0_ n1_ n2_ n3_; clear hb hbox hg; obtain ⟨hcz10_0, hcz10_1, hcz10_2, hfz10_0, hfz10_1, hfz10_2⟩ := blk3 BK139.out) | ((with_reducible refine gate_callee (f := 7) rfl ?_); refine goesL_ (some 8) rfl rfl Tryz.func7 (by kernel_rfl) rfl #[.agg #[.string a0_0, .slice A0_1 l0_1.length c0_1, .slice A0_2 l0_2.length c0_2]] rfl (by (try simp only [List.map_toArray, List.map_cons, List.map_nil]); first | done | rfl | (simp only [List.length_drop, List.length_take]; rfl)) ?_; (with_reducible refine (zai.calls k a0_0 _ _ l0_1 _ _ l0_2 true _ ?side1 ?side2 ?side3 ?side4 A2.out).mono ?_); (case side1 => repeat (first | exact (Kd.C_below HR0_1.out HB.out) | (with_reducible refine Kd.C_alloc ?_ _) | (with_reducible refine Kd.C_drewN ?_ _) | (with_reducible refine Kd.C_drew ?_))); (case side2 => exact HC0_1.out); (case side3 => repeat (first | exact (Kd.C_below HR0_2.out HB.out) | (with_reducible refine Kd.C_alloc ?_ _) | (with_reducible refine Kd.C_drewN ?_ _) | (with_reducible refine Kd.C_drew ?_))); (case side4 => exact HC0_2.out); rintro e w11 ⟨rfl, hb⟩; refine ⟨_, rfl, ?_⟩; have n0_ := mk0 (blk_below (obk BK139.out) hb); have n1_ := mk0 (bst HB.out hb); clear BK139; clear HB; have BK139 := n0_; have HB := n1_; clear n0_ n1_; (try clear hb); obtain ⟨hcz12_0, hcz12_1, hcz12_2, hfz12_0, hfz12_1, hfz12_2⟩ := blk3 BK139.out) | ((with_reducible refine gate_callee (f := 9) rfl ?_); refine goesL_ (some 13) rfl rfl Tryz.func9 (by kernel_rfl) rfl #[.agg #[.string a0_0, .slice A0_1 l0_1.length c0_1, .slice A0_2 l0_2.length c0_2]] rfl (by (try simp only [List.map_toArray, List.map_cons, List.map_nil]); first | done | rfl | (simp only [List.length_drop, List.length_take]; rfl)) ?_; (with_reducible refine (zbm.calls k a0_0 _ _ l0_1 _ _ l0_2 t141 t142 _ (Tab.below hTab (by exact bok HB.out))  ?side1 ?side2 ?side3 ?side4 A4.out).mono ?_); (case side1 => repeat (first | exact (Kd.C_below HR0_1.out HB.out) | (with_reducible refine Kd.C_alloc ?_ _) | (with_reducible refine Kd.C_drewN ?_ _) | (with_reducible refine Kd.C_drew ?_))); (case side2 => exact HC0_1.out); (case side3 => repeat (first | exact (Kd.C_below HR0_2.out HB.out) | (with_reducible refine Kd.C_alloc ?_ _) | (with_reducible refine Kd.C_drewN ?_ _) | (with_reducible refine Kd.C_drew ?_))); (case side4 => exact HC0_2.out); rintro e w13 ⟨rfl, hb⟩; refine ⟨_, rfl, ?_⟩; have n0_ := mk0 (blk_below (obk BK139.out) hb); have n1_ := mk0 (bst HB.out hb); clear BK139; clear HB; have BK139 := n0_; have HB := n1_; clear n0_ n1_; (try clear hb); obtain ⟨hcz14_0, hcz14_1, hcz14_2, hfz14_0, hfz14_1, hfz14_2⟩ := blk3 BK139.out) | ((with_reducible refine gate_callee (f := 10) rfl ?_); refine goesL_ (some 18) rfl rfl Tryz.func10 (by kernel_rfl) rfl #[.agg #[.string a0_0, .slice A0_1 l0_1.length c0_1, .slice A0_2 l0_2.length c0_2]] rfl (by (try simp only [List.map_toArray, List.map_cons, List.map_nil]); first | done | rfl | (simp only [List.length_drop, List.length_take]; rfl)) ?_; (with_reducible refine (zac.calls k a0_0 _ _ l0_1 _ _ l0_2 t143 t144 _ ?side1 ?side2 ?side3 ?side4 A5.out).mono ?_); (case side1 => repeat (first | exact (Kd.C_below HR0_1.out HB.out) | (with_reducible refine Kd.C_alloc ?_ _) | (with_reducible refine Kd.C_drewN ?_ _) | (with_reducible refine Kd.C_drew ?_))); (case side2 => exact HC0_1.out); (case side3 => repeat (first | exact (Kd.C_below HR0_2.out HB.out) | (with_reducible refine Kd.C_alloc ?_ _) | (with_reducible refine Kd.C_drewN ?_ _) | (with_reducible refine Kd.C_drew ?_))); (case side4 => exact HC0_2.out); rintro e w15 ⟨rfl, hb⟩; refine ⟨_, rfl, ?_⟩; have n0_ := mk0 (blk_below (obk BK139.out) hb); have n1_ := mk0 (bst HB.out hb); clear BK139; clear HB; have BK139 := n0_; have HB := n1_; clear n0_ n1_; (try clear hb)) | (go_at_call 8; (with_reducible refine (zaw.calls k  t145 _ (Tab.below hTab (by exact bok HB.out))  A8.out).mono ?_); rintro e w16 ⟨rfl, hb⟩; have n0_ := mk0 (blk_below (obk BK139.out) hb); have n1_ := mk0 (bst HB.out hb); clear BK139; clear HB; have BK139 := n0_; have HB := n1_; clear n0_ n1_; (try clear hb)))
    go_ret
    exact ⟨by first | rfl | (simp [*, zbe, zbf] <;> rfl) | (simp [zbe, zbf]; exact isEmpty_ne _), by exact bok HB.out⟩
   ·
    rw [if_neg c7] at H
    exact absurd (Option.some.inj H) (by rw [hr_]; decide)
  ·
   rw [if_neg c6] at H
   exact absurd (Option.some.inj H) (by rw [hr_]; decide)
 ·
  replace c3 := Bool.eq_false_iff.mpr c3
  subst c3
  have H1 : ((zaw.f k).bind fun t146 => (some t146)) = some r := by rw [if_neg (show ¬ (false = true) by decide)] at H; exact H
  clear H
  have H := H1
  clear H1
  replace H := Option.bind_eq_some_iff.mp H
  obtain ⟨t146, A310, H⟩ := H
  replace H : (some t146) = some r := H
  have A31 := mk0 A310
  clear A310
  obtain rfl := Option.some.inj H
  go_enter Tryz.func3, Tryz.ntmps3
  go_wp2_with (first | ((with_reducible refine gate_dst (N := 1) rfl ?_); refine box_event ?hg (N := 1) ?hd (cs := #[.string a0_0, .slice A0_1 l0_1.length c0_1, .slice A0_2 l0_2.length c0_2]) (t := 25) ?hr ?_; (case hd => rfl); (case hg => rfl); (case hr => first | (go_simp; done) | (go_simp; rfl)); intro gb139 hg w32 hbox hb; have n0_ := mk0 (bst HB.out hb); have n1_ := mk0 (hbox); have n2_ := mk0 (gle hg HB.out); have n3_ := mk0 (gle hg HB.out); clear HB; have HB := n0_; have BK139 := n1_; have GW139 := n2_; have GE139 := n3_; clear n0_ n1_ n2_ n3_; clear hb hbox hg; obtain ⟨hcz33_0, hcz33_1, hcz33_2, hfz33_0, hfz33_1, hfz33_2⟩ := blk3 BK139.out) | ((with_reducible refine gate_callee (f := 7) rfl ?_); refine goesL_ (some 8) rfl rfl Tryz.func7 (by kernel_rfl) rfl #[.agg #[.string a0_0, .slice A0_1 l0_1.length c0_1, .slice A0_2 l0_2.length c0_2]] rfl (by (try simp only [List.map_toArray, List.map_cons, List.map_nil]); first | done | rfl | (simp only [List.length_drop, List.length_take]; rfl)) ?_; (with_reducible refine (zai.calls k a0_0 _ _ l0_1 _ _ l0_2 false _ ?side1 ?side2 ?side3 ?side4 A2.out).mono ?_); (case side1 => repeat (first | exact (Kd.C_below HR0_1.out HB.out) | (with_reducible refine Kd.C_alloc ?_ _) | (with_reducible refine Kd.C_drewN ?_ _) | (with_reducible refine Kd.C_drew ?_))); (case side2 => exact HC0_1.out); (case side3 => repeat (first | exact (Kd.C_below HR0_2.out HB.out) | (with_reducible refine Kd.C_alloc ?_ _) | (with_reducible refine Kd.C_drewN ?_ _) | (with_reducible refine Kd.C_drew ?_))); (case side4 => exact HC0_2.out); rintro e w34 ⟨rfl, hb⟩; refine ⟨_, rfl, ?_⟩; have n0_ := mk0 (blk_below (obk BK139.out) hb); have n1_ := mk0 (bst HB.out hb); clear BK139; clear HB; have BK139 := n0_; have HB := n1_; clear n0_ n1_; (try clear hb)) | ((with_reducible refine gate_callee (f := 8) rfl ?_); refine goesL_ (some 10) rfl rfl Tryz.func8 (by kernel_rfl) rfl #[] rfl (by (try simp only [List.map_toArray, List.map_cons, List.map_nil]); first | done | rfl | (simp only [List.length_drop, List.length_take]; rfl)) ?_; (with_reducible refine (zaw.calls k  t146 _ (Tab.below hTab (by exact bok HB.out))  A31.out).mono ?_); rintro e w35 ⟨rfl, hb⟩; refine ⟨_, rfl, ?_⟩; have n0_ := mk0 (blk_below (obk BK139.out) hb); have n1_ := mk0 (bst HB.out hb); clear BK139; clear HB; have BK139 := n0_; have HB := n1_; clear n0_ n1_; (try clear hb)))
  go_ret
  exact ⟨by first | rfl | (simp [*, zbe, zbf] <;> rfl) | (simp [zbe, zbf]; exact isEmpty_ne _), by exact bok HB.out⟩

end Go.Proofs.YtcaegaljhogbjaaGreatDoor.L
