/- What Go functions compute, as plain Lean functions, and that the machine comes to just that: written by wip/tools/printx.py (my run of the printer, with contracts of mine beside it). -/
import Derived.Test.YtcaegaljhogbjaaGreatDoorOn
import Derived.Test.YtcaegaljhogbjaaGreatDoorYx0
import Derived.Test.YtcaegaljhogbjaaGreatDoorYx1
set_option maxHeartbeats 8000000
set_option maxRecDepth 100000
namespace Go.Proofs.YtcaegaljhogbjaaGreatDoor.Y
open Go.Proofs.YtcaegaljhogbjaaGreatDoor.Ext Go.Proofs.YtcaegaljhogbjaaGreatDoor.B Go.Proofs.YtcaegaljhogbjaaGreatDoor.Q Go.RowKit Go.Proofs.YtcaegaljhogbjaaGreatDoorW.PrintWords Go.Proofs.YtcaegaljhogbjaaGreatDoorW.PrintLast Go.Proofs.YtcaegaljhogbjaaGreatDoorW.PrintMore
attribute [local go_sem] max2_int min2_int max_two min_two max_three min_three max_four min_four   -- for this text's walks alone
set_option linter.unusedVariables false
set_option linter.unusedSimpArgs false


/-! ### zaf: function 13 -/
def zaf.l0 : Nat → Int → List Int → Int → ByteArray → List (S38) → List (S40) → Option (List Int)
 | 0, _, _, _, _, _, _ => none
 | k + 1, x1, x5, x6, x136000, x136001, x136002 => if x6 < (x136002.length : Int) then (if 0 ≤ x6 then (if ((zbb x136002 x6).f0) = x1 then (if x5.length < 17592186044416 then (zaf.l0 k x1 (x5 ++ [wrap64 (x6 + 1)]) (wrap64 (x6 + 1)) x136000 x136001 x136002) else (none)) else (zaf.l0 k x1 x5 (wrap64 (x6 + 1)) x136000 x136001 x136002)) else (none)) else (some x5)
def zaf.f (k : Nat) (a0_0 : ByteArray) (l0_1 : List (S38)) (l0_2 : List (S40)) (a1 : Int) : Option (List Int) := zaf.l0 k a1 ([] : List Int) 0 a0_0 l0_1 l0_2
theorem zaf.mono_l : ∀ k, (∀ y0 y1 y2 y3 y4 y5, LeO (zaf.l0 k y0 y1 y2 y3 y4 y5) (zaf.l0 (k + 1) y0 y1 y2 y3 y4 y5))
 | 0 => fun _ _ _ _ _ _ r h => by simp [zaf.l0] at h
 | k + 1 => by
  have ih0 := zaf.mono_l k
  ·
   intro y0 y1 y2 y3 y4 y5
   unfold zaf.l0
   repeat' first
   | (with_reducible exact ih0 _ _ _ _ _ _)
   | (with_reducible exact LeO.refl _)
   | (with_reducible exact LeO.none _)
   | (with_reducible refine LeO.ite ?_ ?_)
   | (with_reducible refine LeO.bind ?_ (fun _ => ?_))
   | exact ih0 _ _ _ _ _ _
   | exact LeO.none _
   | refine LeO.ite ?_ ?_
   | refine LeO.bind ?_ (fun _ => ?_)
theorem zaf.mono : ∀ a0 a1 a2 a3 k, LeO (zaf.f k a0 a1 a2 a3) (zaf.f (k + 1) a0 a1 a2 a3) := by
 intro a0 a1 a2 a3 k
 have ih0 := zaf.mono_l k
 unfold zaf.f
 repeat' first
   | (with_reducible exact ih0 _ _ _ _ _ _)
   | (with_reducible exact LeO.refl _)
   | (with_reducible exact LeO.none _)
   | (with_reducible refine LeO.ite ?_ ?_)
   | (with_reducible refine LeO.bind ?_ (fun _ => ?_))
   | exact ih0 _ _ _ _ _ _
   | exact LeO.none _
   | refine LeO.ite ?_ ?_
   | refine LeO.bind ?_ (fun _ => ?_)
theorem zaf.calls (k : Nat) (a0_0 : ByteArray) (A0_1 : Option Addr) (c0_1 : Nat) (l0_1 : List (S38)) (A0_2 : Option Addr) (c0_2 : Nat) (l0_2 : List (S40)) (a1 : Int) (r : List Int) (w : World) (hr0_1 : Kd.C k38 w A0_1 l0_1.length l0_1) (hc0_1 : l0_1.length ≤ c0_1) (hr0_2 : Kd.C k40 w A0_2 l0_2.length l0_2) (hc0_2 : l0_2.length ≤ c0_2) (h : zaf.f k a0_0 l0_1 l0_2 a1 = some r) :
  Calls Tryz.prog 13 #[.agg #[.string a0_0, .slice A0_1 l0_1.length c0_1, .slice A0_2 l0_2.length c0_2], .int .i64 a1] w fun e w' => ∃ v0_ : Value, e = .returned (v0_) ∧ Kd.R (Kd.int .i64) 3 w' w.heap.size (fun _ => True) v0_ r ∧ Below w.heap.size w w' := by
 have hu25 := Tryz.underlying25
 have HR0_1 := mk0 hr0_1
 have HC0_1 := mk0 hc0_1
 clear hr0_1 hc0_1
 have HR0_2 := mk0 hr0_2
 have HC0_2 := mk0 hc0_2
 clear hr0_2 hc0_2
 have HB := mk0 (Below.refl w.heap.size w)
 have H : (zaf.l0 k a1 ([] : List Int) 0 a0_0 l0_1 l0_2) = some r := h
 clear h
 have H' := mk0 H
 clear H
 go_enter Tryz.func13, Tryz.ntmps13
 go_wp2_with (first | ((with_reducible refine gate_dst (N := 2) rfl ?_); refine box_event ?hg (N := 2) ?hd (cs := #[.string a0_0, .slice A0_1 l0_1.length c0_1, .slice A0_2 l0_2.length c0_2]) (t := 25) ?hr ?_; (case hd => rfl); (case hg => rfl); (case hr => first | (go_simp; done) | (go_simp; rfl)); intro gb135 hg w3 hbox hb; have n0_ := mk0 (bst HB.out hb); have n1_ := mk0 (hbox); have n2_ := mk0 (gle hg HB.out); have n3_ := mk0 (gle hg HB.out); clear HB; have HB := n0_; have BK135 := n1_; have GW135 := n2_; have GE135 := n3_; clear n0_ n1_ n2_ n3_; clear hb hbox hg))
 go_loopg [5, 6] k (fun kq v5 v6 w' => ∃ (x5_1 : List Int) (x6_1 : Int), v6 = .int .i64 x6_1 ∧ Aside0 (zaf.l0 kq a1 x5_1 x6_1 a0_0 l0_1 l0_2 = some r) ∧ Aside0 (kq ≤ k) ∧ Aside0 (Kd.R (Kd.int .i64) 3 w' w.heap.size (fun _ => True) v5 x5_1) ∧ Aside0 (w'.heap[gb135]? = some (.cells #[.string a0_0, (.slice A0_1 l0_1.length c0_1), (.slice A0_2 l0_2.length c0_2)] 25 (0, 0))) ∧ Aside0 (Below w.heap.size w w'))
 case atStart => exact ⟨(([] : List Int)), (0), (by first | rfl | (simp; done) | (simp [*]; done)), H', ⟨Nat.le_refl _⟩, ⟨by first | exact Kd.R_nil _ _ _ _ _ | exact Kd.N_nil _ _ _ _ _ | exact Kd.V_nil _ _ _ _ _ | exact Kd.Q_nil _ _ _ _ _ | exact Kd.S_nil _ _ _ _ _⟩, ⟨by exact obk BK135.out⟩, ⟨by exact bok HB.out⟩⟩
 case round =>
  clear H'
  obtain ⟨x5_1, x6_1, rfl, HA, HK1, HO_5, BK135, HB⟩ := hrel
  cases gk with
  | zero => exact absurd HA.out (by simp [zaf.l0])
  | succ k1 =>
   have H := HA.out
   clear HA
   simp only [zaf.l0] at H
   by_cases c4 : x6_1 < (l0_2.length : Int)
   ·
    rw [if_pos c4] at H
    have c4b0 : decide (x6_1 < (l0_2.length : Int)) = true := decide_eq_true c4
    clear c4
    by_cases c5 : 0 ≤ x6_1
    ·
     rw [if_pos c5] at H
     have c5b0 : decide (0 ≤ x6_1) = true := decide_eq_true c5
     clear c5
     by_cases c6 : ((zbb l0_2 x6_1).f0) = a1
     ·
      rw [if_pos c6] at H
      have c6b0 : (((zbb l0_2 x6_1).f0) == a1) = true := beq_iff_eq.mpr c6
      have c6b1 : (((zbb l0_2 x6_1).f0) != a1) = false := bne_eq_false_iff_eq.mpr c6
      clear c6
      by_cases c7 : x5_1.length < 17592186044416
      ·
       rw [if_pos c7] at H
       have LMc7 := mk0 c7
       clear c7
       obtain ⟨y137, hy137⟩ : ∃ y_ : List Int, y_ = (x5_1 ++ [wrap64 (x6_1 + 1)]) := ⟨_, rfl⟩
       replace H : (zaf.l0 k1 a1 y137 (wrap64 (x6_1 + 1)) a0_0 l0_1 l0_2) = some r := by first | (rw [hy137]; with_reducible exact H) | (have H2_ := (Option.bind_some _ _).symm.trans H; rw [hy137]; with_reducible exact H2_) | (have H2_ := (Option.bind_some _ _).symm.trans H; with_reducible exact H2_) | with_reducible exact H | (rw [hy137]; exact H) | exact H
       have Ny137 := mk0 hy137
       clear hy137
       have H' := mk0 H
       clear H
       obtain ⟨hcz8_0, hcz8_1, hcz8_2, hfz8_0, hfz8_1, hfz8_2⟩ := blk3 BK135.out
       have p136 : 0 ≤ (x6_1 : Int) := of_decide_eq_true (by assumption)
       have q136 : x6_1 < (l0_2.length : Int) := of_decide_eq_true (by assumption)
       obtain ⟨ad136, e136, hx136_0, hx136_1, hx136_2, hx136_3, hx136_4⟩ := zbd HR0_2.out x6_1 p136 q136
       cases e136
       replace hx136_0 := (HB.out.cell (World.block_lt_of_cell? w _ hx136_0)).trans hx136_0
       replace hx136_1 := (HB.out.cell (World.block_lt_of_cell? w _ hx136_1)).trans hx136_1
       replace hx136_2 := (HB.out.cell (World.block_lt_of_cell? w _ hx136_2)).trans hx136_2
       replace hx136_3 := (HB.out.cell (World.block_lt_of_cell? w _ hx136_3)).trans hx136_3
       replace hx136_4 := (HB.out.cell (World.block_lt_of_cell? w _ hx136_4)).trans hx136_4
       replace p136 := eq_true p136
       replace q136 := eq_true q136
       go_wp2_with (first | ((with_reducible refine gate_builtin (b := .append) (xs := #[.tmp 22, .tmp 25]) rfl ?_); at_builtin; refine Kd.R_append (Kd.int .i64) (w0 := w) w.heap.size rfl (.tmp 22) (.tmp 25) 36 3 (.int .i64 0) 8 rfl Tryz.underlying36 info3 rfl (by decide) (by omega) u5 x5_1 (wrap64 (x6_1 + 1)) [.int .i64 (wrap64 (x6_1 + 1))] (fun _ => True) (fun _ => False) rfl rfl ?aP (fun _ hk => hk.elim) ?aF ?aO ?aB ?aS ?aL ?_; (case aP => exact rfl); (case aB => exact (by exact bok HB.out)); (case aF => exact (fun _ _ => trivial)); (case aO => exact (by exact rok HO_5.out)); (case aS => exact (below_size (by exact bok HB.out))); (case aL => have := LMc7.out; omega); intro v138 w9 ho hb hg hat; rw [← Ny137.out] at ho; have n0_ := mk0 (blk_grown (g := gb135) (o := .cells #[.string a0_0, .slice A0_1 l0_1.length c0_1, .slice (some ad136) l0_2.length c0_2] 25 (0, 0)) (by exact obk BK135.out) hg (Kd.R_ne HO_5.out BK135.out (by decide))); have n1_ := mk0 (hb); have n2_ := mk0 (ho); clear BK135; clear HB; clear HO_5; have BK135 := n0_; have HB := n1_; have HO139 := n2_; clear n0_ n1_ n2_; clear ho hb hg hat))
       go_roundg k1
       case measure => have := HK1.out; omega
       case rel => exact ⟨(y137), (wrap64 (x6_1 + 1)), (by first | rfl | (simp; done) | (simp [*]; done)), H', ⟨by have := HK1.out; omega⟩, ⟨by exact rok HO139.out⟩, ⟨by exact obk BK135.out⟩, ⟨by exact bok HB.out⟩⟩
      ·
       rw [if_neg c7] at H
       exact absurd H (by simp)
     ·
      rw [if_neg c6] at H
      have c6b0 : (((zbb l0_2 x6_1).f0) == a1) = false := beq_eq_false_iff_ne.mpr c6
      have c6b1 : (((zbb l0_2 x6_1).f0) != a1) = true := bne_iff_ne.mpr c6
      have H' := mk0 H
      clear H
      obtain ⟨hcz10_0, hcz10_1, hcz10_2, hfz10_0, hfz10_1, hfz10_2⟩ := blk3 BK135.out
      have p136 : 0 ≤ (x6_1 : Int) := of_decide_eq_true (by assumption)
      have q136 : x6_1 < (l0_2.length : Int) := of_decide_eq_true (by assumption)
      obtain ⟨ad136, e136, hx136_0, hx136_1, hx136_2, hx136_3, hx136_4⟩ := zbd HR0_2.out x6_1 p136 q136
      cases e136
      replace hx136_0 := (HB.out.cell (World.block_lt_of_cell? w _ hx136_0)).trans hx136_0
      replace hx136_1 := (HB.out.cell (World.block_lt_of_cell? w _ hx136_1)).trans hx136_1
      replace hx136_2 := (HB.out.cell (World.block_lt_of_cell? w _ hx136_2)).trans hx136_2
      replace hx136_3 := (HB.out.cell (World.block_lt_of_cell? w _ hx136_3)).trans hx136_3
      replace hx136_4 := (HB.out.cell (World.block_lt_of_cell? w _ hx136_4)).trans hx136_4
      replace p136 := eq_true p136
      replace q136 := eq_true q136
      go_wp2
      go_roundg k1
      case measure => have := HK1.out; omega
      case rel => exact ⟨(x5_1), (wrap64 (x6_1 + 1)), (by first | rfl | (simp; done) | (simp [*]; done)), H', ⟨by have := HK1.out; omega⟩, ⟨by exact rok HO_5.out⟩, ⟨by exact obk BK135.out⟩, ⟨by exact bok HB.out⟩⟩
    ·
     rw [if_neg c5] at H
     exact absurd H (by simp)
   ·
    rw [if_neg c4] at H
    have c4b0 : decide (x6_1 < (l0_2.length : Int)) = false := decide_eq_false c4
    clear c4
    obtain rfl := Option.some.inj H
    obtain ⟨hcz11_0, hcz11_1, hcz11_2, hfz11_0, hfz11_1, hfz11_2⟩ := blk3 BK135.out
    go_wp2
    go_ret
    exact ⟨_, by first | rfl | (simp [*, zbe, zbf] <;> rfl), by exact rok HO_5.out, by exact bok HB.out⟩

/-! ### zan: function 51 -/
def zan.l0 : Nat → Int → List Int → Int → ByteArray → List (S38) → List (S40) → Option (List Int)
 | 0, _, _, _, _, _, _ => none
 | k + 1, x1, x5, x6, x141000, x141001, x141002 => if x6 < (x141002.length : Int) then (if 0 ≤ x6 then (if ((zbb x141002 x6).f1) = x1 then (if x5.length < 17592186044416 then (zan.l0 k x1 (x5 ++ [wrap64 (x6 + 1)]) (wrap64 (x6 + 1)) x141000 x141001 x141002) else (none)) else (zan.l0 k x1 x5 (wrap64 (x6 + 1)) x141000 x141001 x141002)) else (none)) else (some x5)
def zan.f (k : Nat) (a0_0 : ByteArray) (l0_1 : List (S38)) (l0_2 : List (S40)) (a1 : Int) : Option (List Int) := zan.l0 k a1 ([] : List Int) 0 a0_0 l0_1 l0_2
theorem zan.mono_l : ∀ k, (∀ y0 y1 y2 y3 y4 y5, LeO (zan.l0 k y0 y1 y2 y3 y4 y5) (zan.l0 (k + 1) y0 y1 y2 y3 y4 y5))
 | 0 => fun _ _ _ _ _ _ r h => by simp [zan.l0] at h
 | k + 1 => by
  have ih0 := zan.mono_l k
  ·
   intro y0 y1 y2 y3 y4 y5
   unfold zan.l0
   repeat' first
   | (with_reducible exact ih0 _ _ _ _ _ _)
   | (with_reducible exact LeO.refl _)
   | (with_reducible exact LeO.none _)
   | (with_reducible refine LeO.ite ?_ ?_)
   | (with_reducible refine LeO.bind ?_ (fun _ => ?_))
   | exact ih0 _ _ _ _ _ _
   | exact LeO.none _
   | refine LeO.ite ?_ ?_
   | refine LeO.bind ?_ (fun _ => ?_)
theorem zan.mono : ∀ a0 a1 a2 a3 k, LeO (zan.f k a0 a1 a2 a3) (zan.f (k + 1) a0 a1 a2 a3) := by
 intro a0 a1 a2 a3 k
 have ih0 := zan.mono_l k
 unfold zan.f
 repeat' first
   | (with_reducible exact ih0 _ _ _ _ _ _)
   | (with_reducible exact LeO.refl _)
   | (with_reducible exact LeO.none _)
   | (with_reducible refine LeO.ite ?_ ?_)
   | (with_reducible refine LeO.bind ?_ (fun _ => ?_))
   | exact ih0 _ _ _ _ _ _
   | exact LeO.none _
   | refine LeO.ite ?_ ?_
   | refine LeO.bind ?_ (fun _ => ?_)
theorem zan.calls (k : Nat) (a0_0 : ByteArray) (A0_1 : Option Addr) (c0_1 : Nat) (l0_1 : List (S38)) (A0_2 : Option Addr) (c0_2 : Nat) (l0_2 : List (S40)) (a1 : Int) (r : List Int) (w : World) (hr0_1 : Kd.C k38 w A0_1 l0_1.length l0_1) (hc0_1 : l0_1.length ≤ c0_1) (hr0_2 : Kd.C k40 w A0_2 l0_2.length l0_2) (hc0_2 : l0_2.length ≤ c0_2) (h : zan.f k a0_0 l0_1 l0_2 a1 = some r) :
  Calls Tryz.prog 51 #[.agg #[.string a0_0, .slice A0_1 l0_1.length c0_1, .slice A0_2 l0_2.length c0_2], .int .i64 a1] w fun e w' => ∃ v0_ : Value, e = .returned (v0_) ∧ Kd.R (Kd.int .i64) 3 w' w.heap.size (fun _ => True) v0_ r ∧ Below w.heap.size w w' := by
 have hu25 := Tryz.underlying25
 have HR0_1 := mk0 hr0_1
 have HC0_1 := mk0 hc0_1
 clear hr0_1 hc0_1
 have HR0_2 := mk0 hr0_2
 have HC0_2 := mk0 hc0_2
 clear hr0_2 hc0_2
 have HB := mk0 (Below.refl w.heap.size w)
 have H : (zan.l0 k a1 ([] : List Int) 0 a0_0 l0_1 l0_2) = some r := h
 clear h
 have H' := mk0 H
 clear H
 go_enter Tryz.func51, Tryz.ntmps51
 go_wp2_with (first | ((with_reducible refine gate_dst (N := 2) rfl ?_); refine box_event ?hg (N := 2) ?hd (cs := #[.string a0_0, .slice A0_1 l0_1.length c0_1, .slice A0_2 l0_2.length c0_2]) (t := 25) ?hr ?_; (case hd => rfl); (case hg => rfl); (case hr => first | (go_simp; done) | (go_simp; rfl)); intro gb140 hg w3 hbox hb; have n0_ := mk0 (bst HB.out hb); have n1_ := mk0 (hbox); have n2_ := mk0 (gle hg HB.out); have n3_ := mk0 (gle hg HB.out); clear HB; have HB := n0_; have BK140 := n1_; have GW140 := n2_; have GE140 := n3_; clear n0_ n1_ n2_ n3_; clear hb hbox hg))
 go_loopg [5, 6] k (fun kq v5 v6 w' => ∃ (x5_1 : List Int) (x6_1 : Int), v6 = .int .i64 x6_1 ∧ Aside0 (zan.l0 kq a1 x5_1 x6_1 a0_0 l0_1 l0_2 = some r) ∧ Aside0 (kq ≤ k) ∧ Aside0 (Kd.R (Kd.int .i64) 3 w' w.heap.size (fun _ => True) v5 x5_1) ∧ Aside0 (w'.heap[gb140]? = some (.cells #[.string a0_0, (.slice A0_1 l0_1.length c0_1), (.slice A0_2 l0_2.length c0_2)] 25 (0, 0))) ∧ Aside0 (Below w.heap.size w w'))
 case atStart => exact ⟨(([] : List Int)), (0), (by first | rfl | (simp; done) | (simp [*]; done)), H', ⟨Nat.le_refl _⟩, ⟨by first | exact Kd.R_nil _ _ _ _ _ | exact Kd.N_nil _ _ _ _ _ | exact Kd.V_nil _ _ _ _ _ | exact Kd.Q_nil _ _ _ _ _ | exact Kd.S_nil _ _ _ _ _⟩, ⟨by exact obk BK140.out⟩, ⟨by exact bok HB.out⟩⟩
 case round =>
  clear H'
  obtain ⟨x5_1, x6_1, rfl, HA, HK1, HO_5, BK140, HB⟩ := hrel
  cases gk with
  | zero => exact absurd HA.out (by simp [zan.l0])
  | succ k1 =>
   have H := HA.out
   clear HA
   simp only [zan.l0] at H
   by_cases c4 : x6_1 < (l0_2.length : Int)
   ·
    rw [if_pos c4] at H
    have c4b0 : decide (x6_1 < (l0_2.length : Int)) = true := decide_eq_true c4
    clear c4
    by_cases c5 : 0 ≤ x6_1
    ·
     rw [if_pos c5] at H
     have c5b0 : decide (0 ≤ x6_1) = true := decide_eq_true c5
     clear c5
     by_cases c6 : ((zbb l0_2 x6_1).f1) = a1
     ·
      rw [if_pos c6] at H
      have c6b0 : (((zbb l0_2 x6_1).f1) == a1) = true := beq_iff_eq.mpr c6
      have c6b1 : (((zbb l0_2 x6_1).f1) != a1) = false := bne_eq_false_iff_eq.mpr c6
      clear c6
      by_cases c7 : x5_1.length < 17592186044416
      ·
       rw [if_pos c7] at H
       have LMc7 := mk0 c7
       clear c7
       obtain ⟨y142, hy142⟩ : ∃ y_ : List Int, y_ = (x5_1 ++ [wrap64 (x6_1 + 1)]) := ⟨_, rfl⟩
       replace H : (zan.l0 k1 a1 y142 (wrap64 (x6_1 + 1)) a0_0 l0_1 l0_2) = some r := by first | (rw [hy142]; with_reducible exact H) | (have H2_ := (Option.bind_some _ _).symm.trans H; rw [hy142]; with_reducible exact H2_) | (have H2_ := (Option.bind_some _ _).symm.trans H; with_reducible exact H2_) | with_reducible exact H | (rw [hy142]; exact H) | exact H
       have Ny142 := mk0 hy142
       clear hy142
       have H' := mk0 H
       clear H
       obtain ⟨hcz8_0, hcz8_1, hcz8_2, hfz8_0, hfz8_1, hfz8_2⟩ := blk3 BK140.out
       have p141 : 0 ≤ (x6_1 : Int) := of_decide_eq_true (by assumption)
       have q141 : x6_1 < (l0_2.length : Int) := of_decide_eq_true (by assumption)
       obtain ⟨ad141, e141, hx141_0, hx141_1, hx141_2, hx141_3, hx141_4⟩ := zbd HR0_2.out x6_1 p141 q141
       cases e141
       replace hx141_0 := (HB.out.cell (World.block_lt_of_cell? w _ hx141_0)).trans hx141_0
       replace hx141_1 := (HB.out.cell (World.block_lt_of_cell? w _ hx141_1)).trans hx141_1
       replace hx141_2 := (HB.out.cell (World.block_lt_of_cell? w _ hx141_2)).trans hx141_2
       replace hx141_3 := (HB.out.cell (World.block_lt_of_cell? w _ hx141_3)).trans hx141_3
       replace hx141_4 := (HB.out.cell (World.block_lt_of_cell? w _ hx141_4)).trans hx141_4
       replace p141 := eq_true p141
       replace q141 := eq_true q141
       go_wp2_with (first | ((with_reducible refine gate_builtin (b := .append) (xs := #[.tmp 22, .tmp 25]) rfl ?_); at_builtin; refine Kd.R_append (Kd.int .i64) (w0 := w) w.heap.size rfl (.tmp 22) (.tmp 25) 36 3 (.int .i64 0) 8 rfl Tryz.underlying36 info3 rfl (by decide) (by omega) u5 x5_1 (wrap64 (x6_1 + 1)) [.int .i64 (wrap64 (x6_1 + 1))] (fun _ => True) (fun _ => False) rfl rfl ?aP (fun _ hk => hk.elim) ?aF ?aO ?aB ?aS ?aL ?_; (case aP => exact rfl); (case aB => exact (by exact bok HB.out)); (case aF => exact (fun _ _ => trivial)); (case aO => exact (by exact rok HO_5.out)); (case aS => exact (below_size (by exact bok HB.out))); (case aL => have := LMc7.out; omega); intro v143 w9 ho hb hg hat; rw [← Ny142.out] at ho; have n0_ := mk0 (blk_grown (g := gb140) (o := .cells #[.string a0_0, .slice A0_1 l0_1.length c0_1, .slice (some ad141) l0_2.length c0_2] 25 (0, 0)) (by exact obk BK140.out) hg (Kd.R_ne HO_5.out BK140.out (by decide))); have n1_ := mk0 (hb); have n2_ := mk0 (ho); clear BK140; clear HB; clear HO_5; have BK140 := n0_; have HB := n1_; have HO144 := n2_; clear n0_ n1_ n2_; clear ho hb hg hat))
       go_roundg k1
       case measure => have := HK1.out; omega
       case rel => exact ⟨(y142), (wrap64 (x6_1 + 1)), (by first | rfl | (simp; done) | (simp [*]; done)), H', ⟨by have := HK1.out; omega⟩, ⟨by exact rok HO144.out⟩, ⟨by exact obk BK140.out⟩, ⟨by exact bok HB.out⟩⟩
      ·
       rw [if_neg c7] at H
       exact absurd H (by simp)
     ·
      rw [if_neg c6] at H
      have c6b0 : (((zbb l0_2 x6_1).f1) == a1) = false := beq_eq_false_iff_ne.mpr c6
      have c6b1 : (((zbb l0_2 x6_1).f1) != a1) = true := bne_iff_ne.mpr c6
      have H' := mk0 H
      clear H
      obtain ⟨hcz10_0, hcz10_1, hcz10_2, hfz10_0, hfz10_1, hfz10_2⟩ := blk3 BK140.out
      have p141 : 0 ≤ (x6_1 : Int) := of_decide_eq_true (by assumption)
      have q141 : x6_1 < (l0_2.length : Int) := of_decide_eq_true (by assumption)
      obtain ⟨ad141, e141, hx141_0, hx141_1, hx141_2, hx141_3, hx141_4⟩ := zbd HR0_2.out x6_1 p141 q141
      cases e141
      replace hx141_0 := (HB.out.cell (World.block_lt_of_cell? w _ hx141_0)).trans hx141_0
      replace hx141_1 := (HB.out.cell (World.block_lt_of_cell? w _ hx141_1)).trans hx141_1
      replace hx141_2 := (HB.out.cell (World.block_lt_of_cell? w _ hx141_2)).trans hx141_2
      replace hx141_3 := (HB.out.cell (World.block_lt_of_cell? w _ hx141_3)).trans hx141_3
      replace hx141_4 := (HB.out.cell (World.block_lt_of_cell? w _ hx141_4)).trans hx141_4
      replace p141 := eq_true p141
      replace q141 := eq_true q141
      go_wp2
      go_roundg k1
      case measure => have := HK1.out; omega
      case rel => exact ⟨(x5_1), (wrap64 (x6_1 + 1)), (by first | rfl | (simp; done) | (simp [*]; done)), H', ⟨by have := HK1.out; omega⟩, ⟨by exact rok HO_5.out⟩, ⟨by exact obk BK140.out⟩, ⟨by exact bok HB.out⟩⟩
    ·
     rw [if_neg c5] at H
     exact absurd H (by simp)
   ·
    rw [if_neg c4] at H
    have c4b0 : decide (x6_1 < (l0_2.length : Int)) = false := decide_eq_false c4
    clear c4
    obtain rfl := Option.some.inj H
    obtain ⟨hcz11_0, hcz11_1, hcz11_2, hfz11_0, hfz11_1, hfz11_2⟩ := blk3 BK140.out
    go_wp2
    go_ret
    exact ⟨_, by first | rfl | (simp [*, zbe, zbf] <;> rfl), by exact rok HO_5.out, by exact bok HB.out⟩

/-! ### zah: function 30 -/
def zah.j0 : Nat → Int → Int → Int → Bool → Option (Bool)
 | 0, _, _, _, _ => none
 | k + 1, x5, x6, x17, x18 => if x18 = true then (if x5 = 0 then (some (x6 == 1)) else (some false)) else (if x17 = 2 then (if x5 = 1 then (some (x6 == 0)) else (some false)) else (if x17 = 9 then (if x5 = 0 then (some (x6 == 0)) else (some false)) else (if x17 = 5 then (if x5 = 1 then (if x6 ≥ 2 then (some true) else (if x5 ≥ 2 then (some (x6 == 1)) else (some false))) else (if x5 ≥ 2 then (some (x6 == 1)) else (some false))) else (if x17 = 6 then (if x5 = 1 then (if x6 ≥ 2 then (some true) else (if x5 ≥ 2 then (some (x6 == 1)) else (some false))) else (if x5 ≥ 2 then (some (x6 == 1)) else (some false))) else (if x5 = 1 then (some (x6 == 1)) else (some false))))))
def zah.f (k : Nat) (a0_0 : ByteArray) (l0_1 : List (S38)) (l0_2 : List (S40)) (a1 : Int) : Option (Bool) := (zan.f k a0_0 l0_1 l0_2 a1).bind fun t146 => ((zaf.f k a0_0 l0_1 l0_2 a1).bind fun t149 => ((zak.f a0_0 l0_1 l0_2 a1).bind fun t152 => (if t152 = 1 then (zah.j0 k (t146.length : Int) (t149.length : Int) t152 (t152 == 1)) else (zah.j0 k (t146.length : Int) (t149.length : Int) t152 (t152 == 8)))))
theorem zah.mono_l : ∀ k, (∀ y0 y1 y2 y3, LeO (zah.j0 k y0 y1 y2 y3) (zah.j0 (k + 1) y0 y1 y2 y3))
 | 0 => fun _ _ _ _ r h => by simp [zah.j0] at h
 | k + 1 => by
  have ih0 := zah.mono_l k
  ·
   intro y0 y1 y2 y3
   unfold zah.j0
   repeat' first
   | (with_reducible exact ih0 _ _ _ _)
   | (with_reducible exact zan.mono _ _ _ _ _)
   | (with_reducible exact zaf.mono _ _ _ _ _)
   | (with_reducible exact LeO.refl _)
   | (with_reducible exact LeO.none _)
   | (with_reducible refine LeO.ite ?_ ?_)
   | (with_reducible refine LeO.bind ?_ (fun _ => ?_))
   | exact ih0 _ _ _ _
   | exact zan.mono _ _ _ _ _
   | exact zaf.mono _ _ _ _ _
   | exact LeO.none _
   | refine LeO.ite ?_ ?_
   | refine LeO.bind ?_ (fun _ => ?_)
theorem zah.mono : ∀ a0 a1 a2 a3 k, LeO (zah.f k a0 a1 a2 a3) (zah.f (k + 1) a0 a1 a2 a3) := by
 intro a0 a1 a2 a3 k
 have ih0 := zah.mono_l k
 unfold zah.f
 repeat' first
   | (with_reducible exact ih0 _ _ _ _)
   | (with_reducible exact zan.mono _ _ _ _ _)
   | (with_reducible exact zaf.mono _ _ _ _ _)
   | (with_reducible exact LeO.refl _)
   | (with_reducible exact LeO.none _)
   | (with_reducible refine LeO.ite ?_ ?_)
   | (with_reducible refine LeO.bind ?_ (fun _ => ?_))
   | exact ih0 _ _ _ _
   | exact zan.mono _ _ _ _ _
   | exact zaf.mono _ _ _ _ _
   | exact LeO.none _
   | refine LeO.ite ?_ ?_
   | refine LeO.bind ?_ (fun _ => ?_)
def zah.T1 : Bool × List (List Nat × List Nat) := (true, [([], []), ([], []), ([0, 1], [0, 1]), ([2], [2]), ([], []), ([], []), ([4, 5, 2], [4, 5]), ([6], [6]), ([3, 6, 0, 1, 2, 3], [3]), ([7, 8, 0, 1, 2, 3, 4, 5, 6, 7, 8], [7])])
def zah.B1 : List Nat := [0, 0, 3, 7, 0, 0, 55, 119, 127, 511]
theorem zah.tab1 : rtab .any (opsOf Tryz.f30 1) = zah.T1 := by kernel_rfl
theorem zah.bits1 : waitsOk zah.T1.2 zah.B1 = true := by kernel_rfl
theorem zah.calls (k : Nat) (a0_0 : ByteArray) (A0_1 : Option Addr) (c0_1 : Nat) (l0_1 : List (S38)) (A0_2 : Option Addr) (c0_2 : Nat) (l0_2 : List (S40)) (a1 : Int) (r : Bool) (w : World) (hr0_1 : Kd.C k38 w A0_1 l0_1.length l0_1) (hc0_1 : l0_1.length ≤ c0_1) (hr0_2 : Kd.C k40 w A0_2 l0_2.length l0_2) (hc0_2 : l0_2.length ≤ c0_2) (h : zah.f k a0_0 l0_1 l0_2 a1 = some r) :
  Calls Tryz.prog 30 #[.agg #[.string a0_0, .slice A0_1 l0_1.length c0_1, .slice A0_2 l0_2.length c0_2], .int .i64 a1] w fun e w' => e = .returned (.bool r) ∧ Below w.heap.size w w' := by
 have hu25 := Tryz.underlying25
 have HR0_1 := mk0 hr0_1
 have HC0_1 := mk0 hc0_1
 clear hr0_1 hc0_1
 have HR0_2 := mk0 hr0_2
 have HC0_2 := mk0 hc0_2
 clear hr0_2 hc0_2
 have HB := mk0 (Below.refl w.heap.size w)
 have H : ((zan.f k a0_0 l0_1 l0_2 a1).bind fun t146 => ((zaf.f k a0_0 l0_1 l0_2 a1).bind fun t149 => ((zak.f a0_0 l0_1 l0_2 a1).bind fun t152 => (if t152 = 1 then (zah.j0 k (t146.length : Int) (t149.length : Int) t152 (t152 == 1)) else (zah.j0 k (t146.length : Int) (t149.length : Int) t152 (t152 == 8)))))) = some r := h
 clear h
 replace H := Option.bind_eq_some_iff.mp H
 obtain ⟨t146, A30, H⟩ := H
 replace H : ((zaf.f k a0_0 l0_1 l0_2 a1).bind fun t149 => ((zak.f a0_0 l0_1 l0_2 a1).bind fun t152 => (if t152 = 1 then (zah.j0 k (t146.length : Int) (t149.length : Int) t152 (t152 == 1)) else (zah.j0 k (t146.length : Int) (t149.length : Int) t152 (t152 == 8))))) = some r := H
 have A3 := mk0 A30
 clear A30
 replace H := Option.bind_eq_some_iff.mp H
 obtain ⟨t149, A40, H⟩ := H
 replace H : ((zak.f a0_0 l0_1 l0_2 a1).bind fun t152 => (if t152 = 1 then (zah.j0 k (t146.length : Int) (t149.length : Int) t152 (t152 == 1)) else (zah.j0 k (t146.length : Int) (t149.length : Int) t152 (t152 == 8)))) = some r := H
 have A4 := mk0 A40
 clear A40
 replace H := Option.bind_eq_some_iff.mp H
 obtain ⟨t152, A50, H⟩ := H
 replace H : (if t152 = 1 then (zah.j0 k (t146.length : Int) (t149.length : Int) t152 (t152 == 1)) else (zah.j0 k (t146.length : Int) (t149.length : Int) t152 (t152 == 8))) = some r := H
 have A5 := mk0 A50
 clear A50
 have HC6 := mk0 H
 clear H
 go_enter Tryz.func30, Tryz.ntmps30
 try go_wp2_with (first | ((with_reducible refine gate_dst (N := 2) rfl ?_); refine box_event ?hg (N := 2) ?hd (cs := #[.string a0_0, .slice A0_1 l0_1.length c0_1, .slice A0_2 l0_2.length c0_2]) (t := 25) ?hr ?_; (case hd => rfl); (case hg => rfl); (case hr => first | (go_simp; done) | (go_simp; rfl)); intro gb145 hg w7 hbox hb; have n0_ := mk0 (bst HB.out hb); have n1_ := mk0 (hbox); have n2_ := mk0 (gle hg HB.out); have n3_ := mk0 (gle hg HB.out); clear HB; have HB := n0_; have BK145 := n1_; have GW145 := n2_; have GE145 := n3_; clear n0_ n1_ n2_ n3_; clear hb hbox hg))
 have n0_ := mk0 (blk_drew BK145.out)
 have n1_ := mk0 (below_drew1 HB.out)
 clear BK145
 clear HB
 have BK145 := n0_
 have HB := n1_
 clear n0_ n1_
 refine start_ (n := 10) (S := fun w' => w'.cell? ⟨gb145, 0, none⟩ = some (.string a0_0) ∧ w'.cell? ⟨gb145, 1, none⟩ = some (.slice A0_1 l0_1.length c0_1) ∧ w'.cell? ⟨gb145, 2, none⟩ = some (.slice A0_2 l0_2.length c0_2)) (ds := []) #[false, false, false, false, false, false, false, false, false, false] (by kernel_rfl) rfl rfl ⟨(blk_cell BK145.out 0).trans rfl, (blk_cell BK145.out 1).trans rfl, (blk_cell BK145.out 2).trans rfl⟩ (fun hHeld => ?_); refine with_tabW zah.tab1 zah.bits1 (fun HT_ HW_ => ?_)
 generalize w7.drew = w8 at BK145 HB hHeld ⊢
 refine pure_ (i := 1) (N := some 8) (v := ?_) (a' := ?_) #[false, true, false, false, false, false, false, false, false, false] rfl rfl (any_of HT_.out (by kernel_rfl)) (fun _ _ _ h => h) (Or.inl ⟨by rfl, ?_⟩) ?_ ?_
 rotate_left
 ·
  intro w'
  go_simp
  with_reducible rfl
 rotate_left
 ·
  simp only [Act.put, List.setIfInBounds_toArray, List.set_cons_zero, List.set_cons_succ, i64_w, i32_w]
  rfl
 refine pure_ (i := 5) (N := some 12) (v := ?_) (a' := ?_) #[false, true, false, false, false, true, false, false, false, false] rfl rfl (any_of HT_.out (by kernel_rfl)) (fun _ _ _ h => h) (Or.inl ⟨by rfl, ?_⟩) ?_ ?_
 rotate_left
 ·
  intro w'
  go_simp
  with_reducible rfl
 rotate_left
 ·
  simp only [Act.put, List.setIfInBounds_toArray, List.set_cons_zero, List.set_cons_succ, i64_w, i32_w]
  rfl
 refine take_ (i := 0) (N := some 7) (v := ?_) (a' := ?_) #[true, true, false, false, false, true, false, false, false, false] rfl rfl (take_ofW HT_.out HW_.out (by kernel_rfl)) (fun _ _ _ h => h) (Or.inl ⟨by rfl, ?_⟩) hHeld ?_ ?_
 rotate_left
 ·
  rintro w' ⟨s0, s1, s2⟩
  go_simp
  with_reducible rfl
 rotate_left
 ·
  simp only [Act.put, List.setIfInBounds_toArray, List.set_cons_zero, List.set_cons_succ, i64_w, i32_w]
  rfl
 refine take_ (i := 4) (N := some 11) (v := ?_) (a' := ?_) #[true, true, false, false, true, true, false, false, false, false] rfl rfl (take_ofW HT_.out HW_.out (by kernel_rfl)) (fun _ _ _ h => h) (Or.inl ⟨by rfl, ?_⟩) hHeld ?_ ?_
 rotate_left
 ·
  rintro w' ⟨s0, s1, s2⟩
  go_simp
  with_reducible rfl
 rotate_left
 ·
  simp only [Act.put, List.setIfInBounds_toArray, List.set_cons_zero, List.set_cons_succ, i64_w, i32_w]
  rfl
 refine one_ (i := 2) (N := some 9) #[true, true, true, false, true, true, false, false, false, false] rfl rfl (one_of HT_.out (by kernel_rfl)) (by decide) (fun K hK => ?_)
 refine goes_ Tryz.func51 (by kernel_rfl) rfl #[.agg #[.string a0_0, .slice A0_1 l0_1.length c0_1, .slice A0_2 l0_2.length c0_2], .int .i64 a1] (by rfl) rfl rfl (by (try simp only [List.map_toArray, List.map_cons, List.map_nil]); first | done | rfl | (simp only [List.length_drop, List.length_take]; rfl)) ?_
 with_reducible refine (zan.calls k a0_0 _ _ l0_1 _ _ l0_2 a1 t146 _ ?side1 ?side2 ?side3 ?side4 A3.out).mono ?_
 (case side1 => repeat (first | exact (Kd.C_below HR0_1.out HB.out) | (with_reducible refine Kd.C_alloc ?_ _) | (with_reducible refine Kd.C_drewN ?_ _) | (with_reducible refine Kd.C_drew ?_)))
 (case side2 => exact HC0_1.out)
 (case side3 => repeat (first | exact (Kd.C_below HR0_2.out HB.out) | (with_reducible refine Kd.C_alloc ?_ _) | (with_reducible refine Kd.C_drewN ?_ _) | (with_reducible refine Kd.C_drew ?_)))
 (case side4 => exact HC0_2.out)
 rintro e w9 ⟨v147, rfl, ho0, hb⟩
 refine ⟨_, rfl, ?_⟩
 have n0_ := mk0 (Kd.R_lower ho0 (below_size (by exact bok HB.out)))
 have n1_ := mk0 (blk_below (obk BK145.out) hb)
 have n2_ := mk0 (bst HB.out hb)
 clear BK145
 clear HB
 have HO148 := n0_
 have BK145 := n1_
 have HB := n2_
 clear n0_ n1_ n2_
 obtain ⟨Ao10, co10, eo10⟩ := Kd.R_slice HO148.out
 (first | subst eo10 | (injection eo10 with f1_ f2_ f3_; have f4_ := f1_.symm; have f5_ := f3_.symm; clear f1_ f2_ f3_; subst f4_; subst f5_))
 refine hK.out _ _ ⟨(blk_cell BK145.out 0).trans rfl, (blk_cell BK145.out 1).trans rfl, (blk_cell BK145.out 2).trans rfl⟩ (fun hHeld => ?_)
 clear hK K
 refine norm_ (a' := ?_) ?_ ?_
 rotate_left
 ·
  show Act.put _ (some 9) _ = _
  simp only [Act.put, List.setIfInBounds_toArray, List.set_cons_zero, List.set_cons_succ, i64_w, i32_w]
  rfl
 refine pure_ (i := 3) (N := some 10) (v := ?_) (a' := ?_) #[true, true, true, true, true, true, false, false, false, false] rfl rfl (any_of HT_.out (by kernel_rfl)) (fun _ _ _ h => h) (Or.inl ⟨by rfl, ?_⟩) ?_ ?_
 rotate_left
 ·
  intro w'
  go_simp
  with_reducible rfl
 rotate_left
 ·
  simp only [Act.put, List.setIfInBounds_toArray, List.set_cons_zero, List.set_cons_succ, i64_w, i32_w]
  rfl
 refine one_ (i := 6) (N := some 13) #[true, true, true, true, true, true, true, false, false, false] rfl rfl (one_of HT_.out (by kernel_rfl)) (by decide) (fun K hK => ?_)
 refine goes_ Tryz.func13 (by kernel_rfl) rfl #[.agg #[.string a0_0, .slice A0_1 l0_1.length c0_1, .slice A0_2 l0_2.length c0_2], .int .i64 a1] (by rfl) rfl rfl (by (try simp only [List.map_toArray, List.map_cons, List.map_nil]); first | done | rfl | (simp only [List.length_drop, List.length_take]; rfl)) ?_
 with_reducible refine (zaf.calls k a0_0 _ _ l0_1 _ _ l0_2 a1 t149 _ ?side1 ?side2 ?side3 ?side4 A4.out).mono ?_
 (case side1 => repeat (first | exact (Kd.C_below HR0_1.out HB.out) | (with_reducible refine Kd.C_alloc ?_ _) | (with_reducible refine Kd.C_drewN ?_ _) | (with_reducible refine Kd.C_drew ?_)))
 (case side2 => exact HC0_1.out)
 (case side3 => repeat (first | exact (Kd.C_below HR0_2.out HB.out) | (with_reducible refine Kd.C_alloc ?_ _) | (with_reducible refine Kd.C_drewN ?_ _) | (with_reducible refine Kd.C_drew ?_)))
 (case side4 => exact HC0_2.out)
 rintro e w11 ⟨v150, rfl, ho0, hb⟩
 refine ⟨_, rfl, ?_⟩
 have n0_ := mk0 (Kd.R_elder' (by exact rok HO148.out) (Kd.R_base ho0) hb)
 have n1_ := mk0 (Kd.R_lower (Kd.R_new' ho0 (Kd.R_lt (by exact rok HO148.out))) (below_size (by exact bok HB.out)))
 have n2_ := mk0 (blk_below (obk BK145.out) hb)
 have n3_ := mk0 (bst HB.out hb)
 clear HO148
 clear BK145
 clear HB
 have HO148 := n0_
 have HO151 := n1_
 have BK145 := n2_
 have HB := n3_
 clear n0_ n1_ n2_ n3_
 obtain ⟨Ao12, co12, eo12⟩ := Kd.R_slice HO151.out
 (first | subst eo12 | (injection eo12 with f1_ f2_ f3_; have f4_ := f1_.symm; have f5_ := f3_.symm; clear f1_ f2_ f3_; subst f4_; subst f5_))
 refine hK.out _ _ ⟨(blk_cell BK145.out 0).trans rfl, (blk_cell BK145.out 1).trans rfl, (blk_cell BK145.out 2).trans rfl⟩ (fun hHeld => ?_)
 clear hK K
 refine norm_ (a' := ?_) ?_ ?_
 rotate_left
 ·
  show Act.put _ (some 13) _ = _
  simp only [Act.put, List.setIfInBounds_toArray, List.set_cons_zero, List.set_cons_succ, i64_w, i32_w]
  rfl
 refine pure_ (i := 7) (N := some 14) (v := ?_) (a' := ?_) #[true, true, true, true, true, true, true, true, false, false] rfl rfl (any_of HT_.out (by kernel_rfl)) (fun _ _ _ h => h) (Or.inl ⟨by rfl, ?_⟩) ?_ ?_
 rotate_left
 ·
  intro w'
  go_simp
  with_reducible rfl
 rotate_left
 ·
  simp only [Act.put, List.setIfInBounds_toArray, List.set_cons_zero, List.set_cons_succ, i64_w, i32_w]
  rfl
 refine pure_ (i := 8) (N := some 5) (v := ?_) (a' := ?_) #[true, true, true, true, true, true, true, true, true, false] rfl rfl (any_of HT_.out (by kernel_rfl)) (fun _ _ _ h => h) (Or.inl ⟨by rfl, ?_⟩) ?_ ?_
 rotate_left
 ·
  intro w'
  go_simp
  with_reducible rfl
 rotate_left
 ·
  simp only [Act.put, List.setIfInBounds_toArray, List.set_cons_zero, List.set_cons_succ, i64_w, i32_w]
  rfl
 refine pure_ (i := 9) (N := some 6) (v := ?_) (a' := ?_) #[true, true, true, true, true, true, true, true, true, true] rfl rfl (any_of HT_.out (by kernel_rfl)) (fun _ _ _ h => h) (Or.inl ⟨by rfl, ?_⟩) ?_ ?_
 rotate_left
 ·
  intro w'
  go_simp
  with_reducible rfl
 rotate_left
 ·
  simp only [Act.put, List.setIfInBounds_toArray, List.set_cons_zero, List.set_cons_succ, i64_w, i32_w]
  rfl
 refine done_ (done_of HT_.out (by kernel_rfl)) ?_
 obtain ⟨hcz13_0, hcz13_1, hcz13_2, hfz13_0, hfz13_1, hfz13_2⟩ := blk3 BK145.out
 go_upto_if 18 with (first | ((with_reducible refine gate_callee (f := 48) rfl ?_); refine goesL_ (some 17) rfl rfl Tryz.func48 (by kernel_rfl) rfl #[.agg #[.string a0_0, .slice A0_1 l0_1.length c0_1, .slice A0_2 l0_2.length c0_2], .int .i64 a1] rfl (by (try simp only [List.map_toArray, List.map_cons, List.map_nil]); first | done | rfl | (simp only [List.length_drop, List.length_take]; rfl)) ?_; (with_reducible refine (zak.calls a0_0 _ _ l0_1 _ _ l0_2 a1 t152 _ ?side1 ?side2 ?side3 ?side4 A5.out).mono ?_); (case side1 => repeat (first | exact (Kd.C_below HR0_1.out HB.out) | (with_reducible refine Kd.C_alloc ?_ _) | (with_reducible refine Kd.C_drewN ?_ _) | (with_reducible refine Kd.C_drew ?_))); (case side2 => exact HC0_1.out); (case side3 => repeat (first | exact (Kd.C_below HR0_2.out HB.out) | (with_reducible refine Kd.C_alloc ?_ _) | (with_reducible refine Kd.C_drewN ?_ _) | (with_reducible refine Kd.C_drew ?_))); (case side4 => exact HC0_2.out); rintro e w14 ⟨rfl, hb⟩; refine ⟨_, rfl, ?_⟩; have n0_ := mk0 (Kd.R_below (by exact rok HO148.out) hb); have n1_ := mk0 (Kd.R_below (by exact rok HO151.out) hb); have n2_ := mk0 (blk_below (obk BK145.out) hb); have n3_ := mk0 (bst HB.out hb); clear HO148; clear HO151; clear BK145; clear HB; have HO148 := n0_; have HO151 := n1_; have BK145 := n2_; have HB := n3_; clear n0_ n1_ n2_ n3_; (try clear hb)))
 (try simp only [Act.put, List.setIfInBounds_toArray, List.set_cons_zero, List.set_cons_succ])
 go_cut [18] (fun v18 wc => ∃ (kq : Nat) (x18_5 : Bool), v18 = .bool x18_5 ∧ Aside0 (zah.j0 kq (t146.length : Int) (t149.length : Int) t152 x18_5 = some r) ∧ Aside0 (kq ≤ k) ∧ Aside0 (wc.heap[gb145]? = some (.cells #[.string a0_0, (.slice A0_1 l0_1.length c0_1), (.slice A0_2 l0_2.length c0_2)] 25 (0, 0))) ∧ Aside0 (Below w.heap.size w wc))
 case first =>
  have H := HC6.out
  clear HC6
  by_cases c15 : t152 = 1
  ·
   rw [if_pos c15] at H
   have c15b0 : (t152 == 1) = true := beq_iff_eq.mpr c15
   have c15b1 : (t152 != 1) = false := bne_eq_false_iff_eq.mpr c15
   clear c15
   (first | rw [c15b0] | (simp only [i64_w, i32_w]; rw [c15b0]) | skip)
   have H' := mk0 H
   clear H
   go_wp2
   go_meet
   case rel => exact ⟨_, ((t152 == 1)), (by first | rfl | (simp; done) | (simp [*]; done)), H', ⟨by first | omega | exact Nat.le_refl _⟩, ⟨by exact obk BK145.out⟩, ⟨by exact bok HB.out⟩⟩
  ·
   rw [if_neg c15] at H
   have c15b0 : (t152 == 1) = false := beq_eq_false_iff_ne.mpr c15
   have c15b1 : (t152 != 1) = true := bne_iff_ne.mpr c15
   (first | rw [c15b0] | (simp only [i64_w, i32_w]; rw [c15b0]) | skip)
   have H' := mk0 H
   clear H
   go_wp2
   go_meet
   case rel => exact ⟨_, ((t152 == 8)), (by first | rfl | (simp; done) | (simp [*]; done)), H', ⟨by first | omega | exact Nat.le_refl _⟩, ⟨by exact obk BK145.out⟩, ⟨by exact bok HB.out⟩⟩
 case rest =>
  clear HC6
  obtain ⟨kq, x18_5, rfl, HA, HJ5, BK145, HB⟩ := hcut
  cases kq with
  | zero => exact absurd HA.out (by simp [zah.j0])
  | succ kj5 =>
   have H := HA.out
   clear HA
   simp only [zah.j0] at H
   by_cases c16 : x18_5 = true
   ·
    subst c16
    have H1 : (if (t146.length : Int) = 0 then (some ((t149.length : Int) == 1)) else (some false)) = some r := by rw [if_pos rfl] at H; exact H
    clear H
    have H := H1
    clear H1
    by_cases c17 : (t146.length : Int) = 0
    ·
     rw [if_pos c17] at H
     have c17b0 : ((t146.length : Int) == 0) = true := beq_iff_eq.mpr c17
     have c17b1 : ((t146.length : Int) != 0) = false := bne_eq_false_iff_eq.mpr c17
     clear c17
     obtain rfl := Option.some.inj H
     go_wp2
     go_ret
     exact ⟨by first | rfl | (simp [*, zbe, zbf] <;> rfl) | (simp [zbe, zbf]; exact isEmpty_ne _), by exact bok HB.out⟩
    ·
     rw [if_neg c17] at H
     have c17b0 : ((t146.length : Int) == 0) = false := beq_eq_false_iff_ne.mpr c17
     have c17b1 : ((t146.length : Int) != 0) = true := bne_iff_ne.mpr c17
     have c17b2 : ¬ (t146 = []) := fun h_ => c17 (by rw [h_]; rfl)
     obtain rfl := Option.some.inj H
     go_wp2
     go_ret
     exact ⟨by first | rfl | (simp [*, zbe, zbf] <;> rfl) | (simp [zbe, zbf]; exact isEmpty_ne _), by exact bok HB.out⟩
   ·
    replace c16 := Bool.eq_false_iff.mpr c16
    subst c16
    have H1 : (if t152 = 2 then (if (t146.length : Int) = 1 then (some ((t149.length : Int) == 0)) else (some false)) else (if t152 = 9 then (if (t146.length : Int) = 0 then (some ((t149.length : Int) == 0)) else (some false)) else (if t152 = 5 then (if (t146.length : Int) = 1 then (if (t149.length : Int) ≥ 2 then (some true) else (if (t146.length : Int) ≥ 2 then (some ((t149.length : Int) == 1)) else (some false))) else (if (t146.length : Int) ≥ 2 then (some ((t149.length : Int) == 1)) else (some false))) else (if t152 = 6 then (if (t146.length : Int) = 1 then (if (t149.length : Int) ≥ 2 then (some true) else (if (t146.length : Int) ≥ 2 then (some ((t149.length : Int) == 1)) else (some false))) else (if (t146.length : Int) ≥ 2 then (some ((t149.length : Int) == 1)) else (some false))) else (if (t146.length : Int) = 1 then (some ((t149.length : Int) == 1)) else (some false)))))) = some r := by rw [if_neg (show ¬ (false = true) by decide)] at H; exact H
    clear H
    have H := H1
    clear H1
    by_cases c18 : t152 = 2
    ·
     rw [if_pos c18] at H
     have c18b0 : (t152 == 2) = true := beq_iff_eq.mpr c18
     have c18b1 : (t152 != 2) = false := bne_eq_false_iff_eq.mpr c18
     clear c18
     by_cases c19 : (t146.length : Int) = 1
     ·
      rw [if_pos c19] at H
      have c19b0 : ((t146.length : Int) == 1) = true := beq_iff_eq.mpr c19
      have c19b1 : ((t146.length : Int) != 1) = false := bne_eq_false_iff_eq.mpr c19
      clear c19
      obtain rfl := Option.some.inj H
      go_wp2
      go_ret
      exact ⟨by first | rfl | (simp [*, zbe, zbf] <;> rfl) | (simp [zbe, zbf]; exact isEmpty_ne _), by exact bok HB.out⟩
     ·
      rw [if_neg c19] at H
      have c19b0 : ((t146.length : Int) == 1) = false := beq_eq_false_iff_ne.mpr c19
      have c19b1 : ((t146.length : Int) != 1) = true := bne_iff_ne.mpr c19
      obtain rfl := Option.some.inj H
      go_wp2
      go_ret
      exact ⟨by first | rfl | (simp [*, zbe, zbf] <;> rfl) | (simp [zbe, zbf]; exact isEmpty_ne _), by exact bok HB.out⟩
    ·
     rw [if_neg c18] at H
     have c18b0 : (t152 == 2) = false := beq_eq_false_iff_ne.mpr c18
     have c18b1 : (t152 != 2) = true := bne_iff_ne.mpr c18
     by_cases c20 : t152 = 9
     ·
      rw [if_pos c20] at H
      have c20b0 : (t152 == 9) = true := beq_iff_eq.mpr c20
      have c20b1 : (t152 != 9) = false := bne_eq_false_iff_eq.mpr c20
      clear c20
      by_cases c21 : (t146.length : Int) = 0
      ·
       rw [if_pos c21] at H
       have c21b0 : ((t146.length : Int) == 0) = true := beq_iff_eq.mpr c21
       have c21b1 : ((t146.length : Int) != 0) = false := bne_eq_false_iff_eq.mpr c21
       clear c21
       obtain rfl := Option.some.inj H
       go_wp2
       go_ret
       exact ⟨by first | rfl | (simp [*, zbe, zbf] <;> rfl) | (simp [zbe, zbf]; exact isEmpty_ne _), by exact bok HB.out⟩
      ·
       rw [if_neg c21] at H
       have c21b0 : ((t146.length : Int) == 0) = false := beq_eq_false_iff_ne.mpr c21
       have c21b1 : ((t146.length : Int) != 0) = true := bne_iff_ne.mpr c21
       have c21b2 : ¬ (t146 = []) := fun h_ => c21 (by rw [h_]; rfl)
       obtain rfl := Option.some.inj H
       go_wp2
       go_ret
       exact ⟨by first | rfl | (simp [*, zbe, zbf] <;> rfl) | (simp [zbe, zbf]; exact isEmpty_ne _), by exact bok HB.out⟩
     ·
      rw [if_neg c20] at H
      have c20b0 : (t152 == 9) = false := beq_eq_false_iff_ne.mpr c20
      have c20b1 : (t152 != 9) = true := bne_iff_ne.mpr c20
      by_cases c22 : t152 = 5
      ·
       rw [if_pos c22] at H
       have c22b0 : (t152 == 5) = true := beq_iff_eq.mpr c22
       have c22b1 : (t152 != 5) = false := bne_eq_false_iff_eq.mpr c22
       clear c22
       by_cases c23 : (t146.length : Int) = 1
       ·
        rw [if_pos c23] at H
        have c23b0 : ((t146.length : Int) == 1) = true := beq_iff_eq.mpr c23
        have c23b1 : ((t146.length : Int) != 1) = false := bne_eq_false_iff_eq.mpr c23
        clear c23
        by_cases c24 : (t149.length : Int) ≥ 2
        ·
         rw [if_pos c24] at H
         have c24b0 : decide (2 ≤ (t149.length : Int)) = true := decide_eq_true c24
         have c24b1 : decide (2 ≤ t149.length) = true := decide_eq_true (by omega)
         clear c24
         obtain rfl := Option.some.inj H
         go_wp2
         go_ret
         exact ⟨by first | rfl | (simp [*, zbe, zbf] <;> rfl) | (simp [zbe, zbf]; exact isEmpty_ne _), by exact bok HB.out⟩
        ·
         rw [if_neg c24] at H
         have c24b0 : decide (2 ≤ (t149.length : Int)) = false := decide_eq_false c24
         have c24b1 : decide (2 ≤ t149.length) = false := decide_eq_false (by omega)
         clear c24
         by_cases c25 : (t146.length : Int) ≥ 2
         ·
          rw [if_pos c25] at H
          have c25b0 : decide (2 ≤ (t146.length : Int)) = true := decide_eq_true c25
          have c25b1 : decide (2 ≤ t146.length) = true := decide_eq_true (by omega)
          clear c25
          obtain rfl := Option.some.inj H
          go_wp2
          go_ret
          exact ⟨by first | rfl | (simp [*, zbe, zbf] <;> rfl) | (simp [zbe, zbf]; exact isEmpty_ne _), by exact bok HB.out⟩
         ·
          rw [if_neg c25] at H
          have c25b0 : decide (2 ≤ (t146.length : Int)) = false := decide_eq_false c25
          have c25b1 : decide (2 ≤ t146.length) = false := decide_eq_false (by omega)
          clear c25
          obtain rfl := Option.some.inj H
          go_wp2
          go_ret
          exact ⟨by first | rfl | (simp [*, zbe, zbf] <;> rfl) | (simp [zbe, zbf]; exact isEmpty_ne _), by exact bok HB.out⟩
       ·
        rw [if_neg c23] at H
        have c23b0 : ((t146.length : Int) == 1) = false := beq_eq_false_iff_ne.mpr c23
        have c23b1 : ((t146.length : Int) != 1) = true := bne_iff_ne.mpr c23
        by_cases c26 : (t146.length : Int) ≥ 2
        ·
         rw [if_pos c26] at H
         have c26b0 : decide (2 ≤ (t146.length : Int)) = true := decide_eq_true c26
         have c26b1 : decide (2 ≤ t146.length) = true := decide_eq_true (by omega)
         clear c26
         obtain rfl := Option.some.inj H
         go_wp2
         go_ret
         exact ⟨by first | rfl | (simp [*, zbe, zbf] <;> rfl) | (simp [zbe, zbf]; exact isEmpty_ne _), by exact bok HB.out⟩
        ·
         rw [if_neg c26] at H
         have c26b0 : decide (2 ≤ (t146.length : Int)) = false := decide_eq_false c26
         have c26b1 : decide (2 ≤ t146.length) = false := decide_eq_false (by omega)
         clear c26
         obtain rfl := Option.some.inj H
         go_wp2
         go_ret
         exact ⟨by first | rfl | (simp [*, zbe, zbf] <;> rfl) | (simp [zbe, zbf]; exact isEmpty_ne _), by exact bok HB.out⟩
      ·
       rw [if_neg c22] at H
       have c22b0 : (t152 == 5) = false := beq_eq_false_iff_ne.mpr c22
       have c22b1 : (t152 != 5) = true := bne_iff_ne.mpr c22
       by_cases c27 : t152 = 6
       ·
        rw [if_pos c27] at H
        have c27b0 : (t152 == 6) = true := beq_iff_eq.mpr c27
        have c27b1 : (t152 != 6) = false := bne_eq_false_iff_eq.mpr c27
        clear c27
        by_cases c28 : (t146.length : Int) = 1
        ·
         rw [if_pos c28] at H
         have c28b0 : ((t146.length : Int) == 1) = true := beq_iff_eq.mpr c28
         have c28b1 : ((t146.length : Int) != 1) = false := bne_eq_false_iff_eq.mpr c28
         clear c28
         by_cases c29 : (t149.length : Int) ≥ 2
         ·
          rw [if_pos c29] at H
          have c29b0 : decide (2 ≤ (t149.length : Int)) = true := decide_eq_true c29
          have c29b1 : decide (2 ≤ t149.length) = true := decide_eq_true (by omega)
          clear c29
          obtain rfl := Option.some.inj H
          go_wp2
          go_ret
          exact ⟨by first | rfl | (simp [*, zbe, zbf] <;> rfl) | (simp [zbe, zbf]; exact isEmpty_ne _), by exact bok HB.out⟩
         ·
          rw [if_neg c29] at H
          have c29b0 : decide (2 ≤ (t149.length : Int)) = false := decide_eq_false c29
          have c29b1 : decide (2 ≤ t149.length) = false := decide_eq_false (by omega)
          clear c29
          by_cases c30 : (t146.length : Int) ≥ 2
          ·
           rw [if_pos c30] at H
           have c30b0 : decide (2 ≤ (t146.length : Int)) = true := decide_eq_true c30
           have c30b1 : decide (2 ≤ t146.length) = true := decide_eq_true (by omega)
           clear c30
           obtain rfl := Option.some.inj H
           go_wp2
           go_ret
           exact ⟨by first | rfl | (simp [*, zbe, zbf] <;> rfl) | (simp [zbe, zbf]; exact isEmpty_ne _), by exact bok HB.out⟩
          ·
           rw [if_neg c30] at H
           have c30b0 : decide (2 ≤ (t146.length : Int)) = false := decide_eq_false c30
           have c30b1 : decide (2 ≤ t146.length) = false := decide_eq_false (by omega)
           clear c30
           obtain rfl := Option.some.inj H
           go_wp2
           go_ret
           exact ⟨by first | rfl | (simp [*, zbe, zbf] <;> rfl) | (simp [zbe, zbf]; exact isEmpty_ne _), by exact bok HB.out⟩
        ·
         rw [if_neg c28] at H
         have c28b0 : ((t146.length : Int) == 1) = false := beq_eq_false_iff_ne.mpr c28
         have c28b1 : ((t146.length : Int) != 1) = true := bne_iff_ne.mpr c28
         by_cases c31 : (t146.length : Int) ≥ 2
         ·
          rw [if_pos c31] at H
          have c31b0 : decide (2 ≤ (t146.length : Int)) = true := decide_eq_true c31
          have c31b1 : decide (2 ≤ t146.length) = true := decide_eq_true (by omega)
          clear c31
          obtain rfl := Option.some.inj H
          go_wp2
          go_ret
          exact ⟨by first | rfl | (simp [*, zbe, zbf] <;> rfl) | (simp [zbe, zbf]; exact isEmpty_ne _), by exact bok HB.out⟩
         ·
          rw [if_neg c31] at H
          have c31b0 : decide (2 ≤ (t146.length : Int)) = false := decide_eq_false c31
          have c31b1 : decide (2 ≤ t146.length) = false := decide_eq_false (by omega)
          clear c31
          obtain rfl := Option.some.inj H
          go_wp2
          go_ret
          exact ⟨by first | rfl | (simp [*, zbe, zbf] <;> rfl) | (simp [zbe, zbf]; exact isEmpty_ne _), by exact bok HB.out⟩
       ·
        rw [if_neg c27] at H
        have c27b0 : (t152 == 6) = false := beq_eq_false_iff_ne.mpr c27
        have c27b1 : (t152 != 6) = true := bne_iff_ne.mpr c27
        by_cases c32 : (t146.length : Int) = 1
        ·
         rw [if_pos c32] at H
         have c32b0 : ((t146.length : Int) == 1) = true := beq_iff_eq.mpr c32
         have c32b1 : ((t146.length : Int) != 1) = false := bne_eq_false_iff_eq.mpr c32
         clear c32
         obtain rfl := Option.some.inj H
         go_wp2
         go_ret
         exact ⟨by first | rfl | (simp [*, zbe, zbf] <;> rfl) | (simp [zbe, zbf]; exact isEmpty_ne _), by exact bok HB.out⟩
        ·
         rw [if_neg c32] at H
         have c32b0 : ((t146.length : Int) == 1) = false := beq_eq_false_iff_ne.mpr c32
         have c32b1 : ((t146.length : Int) != 1) = true := bne_iff_ne.mpr c32
         obtain rfl := Option.some.inj H
         go_wp2
         go_ret
         exact ⟨by first | rfl | (simp [*, zbe, zbf] <;> rfl) | (simp [zbe, zbf]; exact isEmpty_ne _), by exact bok HB.out⟩

end Go.Proofs.YtcaegaljhogbjaaGreatDoor.Y
