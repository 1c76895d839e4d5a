/- graph.Inside (and graph.which, at a node's scope), walked by hand: it computes what the reference's Inside does. -/
import Derived.Test.YtcaegaljhogbjaaGreatDoorGraphSpec
import Derived.Shelf.Abstract
set_option maxHeartbeats 8000000
set_option maxRecDepth 100000
set_option linter.unusedVariables false
set_option linter.unusedSimpArgs false
namespace Go.Proofs.YtcaegaljhogbjaaGreatDoor.Gr
open Go.RowKit Go.Lib Go.Sort Go.Proofs.YtcaegaljhogbjaaGreatDoorW.PrintWords Go.Proofs.YtcaegaljhogbjaaGreatDoorW.PrintLast Go.Proofs.YtcaegaljhogbjaaGreatDoorW.PrintMore Go.Proofs.YtcaegaljhogbjaaGreatDoor.Y Go.Proofs.YtcaegaljhogbjaaGreatDoor.Gd

theorem low0 (w : World) (o1 : Obj) (cs : Obj) {x : Value} {t : TypeId} (hc : cs = .cells #[x] t (0, 0) := by rfl) : Below w.heap.size w ((w.alloc o1).alloc cs) ∧ ((w.alloc o1).alloc cs).cell? ⟨w.heap.size + 1, 0, none⟩ = some x ∧ w.heap.size ≤ ((w.alloc o1).alloc cs).heap.size := by
 have e : (w.alloc o1).heap.size = w.heap.size + 1 := by simp
 refine ⟨below_alloc (below_alloc (Below.refl _ _) _) _, ?_, by simp; omega⟩
 rw [← e]
 subst hc
 exact (blk_cell (blk_new (w.alloc o1) _) 0).trans rfl
theorem inside1_calls (x : S38) (a : Int) (b : Nat) (w : World) (hb : w.cell? ⟨b, 0, none⟩ = some (.int .i64 a)) :
  Calls Tryz.prog 37 #[.agg #[.int .i64 x.f0, .int .i64 x.f1, .int .i64 x.f2, .int .i64 x.f3, .string x.f4], .pointer (some ⟨b, 0, none⟩)] w fun e w' => e = .returned (.bool (x.f1 == a)) ∧ Below w.heap.size w w' := by
 have hlt := World.block_lt_of_cell? w _ hb
 have hne : b ≠ w.heap.size := Nat.ne_of_lt hlt
 obtain ⟨f0, f1, f2, f3, f4⟩ := x
 go_enter Tryz.func37, Tryz.ntmps37
 go_wp2
 go_ret
 exact ⟨rfl, below_alloc (Below.refl _ _) _⟩

theorem which_calls (k : Nat) (s : ByteArray) (l2 : List S40) (A1 : Option Addr) (c1 : Nat) (l1 : List S38) (b : Nat) (a1 : Int) (r : List Int) (w : World)
  (hC1 : Kd.C k38 w A1 l1.length l1) (hb : w.cell? ⟨b, 0, none⟩ = some (.int .i64 a1)) (h : zam.l0 k a1 [] 0 s l1 l2 = some r) :
  Calls Tryz.prog 36 #[.slice A1 l1.length c1, .func (.func 37) #[] #[.pointer (some ⟨b, 0, none⟩)]] w fun e w' => ∃ v0 : Value, e = .returned v0 ∧ Kd.R (Kd.int .i64) 3 w' w.heap.size (fun _ => True) v0 r ∧ Below w.heap.size w w' := by
 have HC := Aside0.mk hC1
 have HBB := Aside0.mk hb
 have H' := Aside0.mk h
 clear hC1 hb h
 have HB := Aside0.mk (Below.refl w.heap.size w)
 go_enter Tryz.func36, Tryz.ntmps36
 go_wp2_with fail
 go_loopg [5, 10] k (fun kq v5 v10 wr => ∃ (xs : List Int) (i : Int), v10 = .int .i64 i ∧ Aside0 (zam.l0 kq a1 xs i s l1 l2 = some r) ∧ Aside0 (kq ≤ k) ∧ Aside0 (Kd.R (Kd.int .i64) 3 wr w.heap.size (fun _ => True) v5 xs) ∧ Aside0 (Below w.heap.size w wr))
 case atStart => exact ⟨[], 0, rfl, H', ⟨Nat.le_refl _⟩, ⟨Kd.R_nil _ _ _ _ _⟩, HB⟩
 case round =>
  clear H'
  obtain ⟨xs, i, rfl, HA, HK1, HO, HB⟩ := hrel
  cases gk with
  | zero => exact absurd HA.out (by simp [zam.l0])
  | succ k1 =>
   have H := HA.out
   clear HA
   simp only [zam.l0] at H
   by_cases c4 : i < (l1.length : Int)
   ·
    rw [if_pos c4] at H
    have c4b0 : decide (i < (l1.length : Int)) = true := decide_eq_true c4
    by_cases c5 : 0 ≤ i
    ·
     rw [if_pos c5] at H
     obtain ⟨ad, rfl, e0, e1, e2, e3, e4⟩ := zbc (Kd.C_below HC.out HB.out) i c5 c4
     replace c4 := eq_true c4
     replace c5 := eq_true c5
     generalize zba l1 i = x at *
     have HCB := HBB.out
     have HD := Aside0.mk (fun W (hW : Below wr.heap.size wr W) => inside1_calls x a1 b W ((hW.cell (by have := World.block_lt_of_cell? w _ HBB.out; have := HB.out.size; omega)).trans ((HB.out.cell (World.block_lt_of_cell? w _ HBB.out)).trans HBB.out)))
     clear HCB
     have H' := H
     clear H
     obtain ⟨f0, f1, f2, f3, f4⟩ := x
     dsimp only at e0 e1 e2 e3 e4 HD H'
     by_cases c6 : f1 = a1
     ·
      rw [if_pos c6] at H'
      have c6b : (f1 == a1) = true := beq_iff_eq.mpr c6
      by_cases c7 : xs.length < 17592186044416
      ·
       rw [if_pos c7] at H'
       have LM := Aside0.mk c7
       have HH := Aside0.mk H'
       clear c7 H' c6
       go_wp2_with (first | (go_at_call 37; (with_reducible refine (HD.out _ (below_alloc (Below.refl _ _) _)).mono ?_); rintro e w3 ⟨rfl, hb3⟩; have n0 := Aside0.mk (below_step (below_alloc HB.out _) hb3); have n1 := Aside0.mk (Kd.R_below (Kd.R_alloc HO.out _) hb3); clear HB HO; have HB := n0; have HO := n1; clear n0 n1 hb3) | ((with_reducible refine gate_builtin (b := .append) (xs := #[.tmp 18, .tmp 21]) rfl ?_); at_builtin; refine Kd.R_append (Kd.int .i64) (w0 := w) w.heap.size rfl (.tmp 18) (.tmp 21) 36 3 (.int .i64 0) 8 rfl Tryz.underlying36 info3 rfl (by decide) (by omega) u5 xs (wrap64 (i + 1)) [.int .i64 (wrap64 (i + 1))] (fun _ => True) (fun _ => False) rfl rfl ?aP (fun _ hk => hk.elim) ?aF ?aO ?aB ?aS ?aL ?_; (case aP => exact rfl); (case aB => exact (by repeat (first | exact HB.out | apply below_alloc | apply pw_below_drewN | apply below_drew1))); (case aF => exact (fun _ _ => trivial)); (case aO => exact (by (with_reducible repeat (first | apply Kd.R_alloc | apply Kd.R_drewN | apply Kd.R_drew)); exact HO.out)); (case aS => exact (below_size (by repeat (first | exact HB.out | apply below_alloc | apply pw_below_drewN | apply below_drew1)))); (case aL => have := LM.out; omega); intro v9 w9 ho hb hg hat; have n0 := Aside0.mk hb; have n1 := Aside0.mk ho; clear HB HO; have HB := n0; have HO := n1; clear n0 n1 ho hb hg hat))
       go_roundg k1
       case measure => have := HK1.out; omega
       case rel => exact ⟨xs ++ [wrap64 (i + 1)], wrap64 (i + 1), rfl, HH, ⟨by have := HK1.out; omega⟩, HO, HB⟩
      ·
       rw [if_neg c7] at H'
       cases H'
     ·
      rw [if_neg c6] at H'
      have c6b : (f1 == a1) = false := beq_eq_false_iff_ne.mpr c6
      have HH := Aside0.mk H'
      clear H' c6
      go_wp2_with (first | (go_at_call 37; (with_reducible refine (HD.out _ (below_alloc (Below.refl _ _) _)).mono ?_); rintro e w3 ⟨rfl, hb3⟩; have n0 := Aside0.mk (below_step (below_alloc HB.out _) hb3); have n1 := Aside0.mk (Kd.R_below (Kd.R_alloc HO.out _) hb3); clear HB HO; have HB := n0; have HO := n1; clear n0 n1 hb3))
      go_roundg k1
      case measure => have := HK1.out; omega
      case rel => exact ⟨xs, wrap64 (i + 1), rfl, HH, ⟨by have := HK1.out; omega⟩, HO, HB⟩
    ·
     rw [if_neg c5] at H
     exact absurd H (by simp)
   ·
    rw [if_neg c4] at H
    have c4b0 : decide (i < (l1.length : Int)) = false := decide_eq_false c4
    obtain rfl := Option.some.inj H
    clear H
    go_wp2
    go_ret
    exact ⟨_, rfl, HO.out, HB.out⟩
def zbq.f (k : Nat) (a0_0 : ByteArray) (l0_1 : List S38) (l0_2 : List S40) (a1 : Int) : Option (List Int) := zam.f k a0_0 l0_1 l0_2 a1
theorem zbq.calls (k : Nat) (a0_0 : ByteArray) (A0_1 : Option Addr) (c0_1 : Nat) (l0_1 : List (S38)) (A0_2 : Option Addr) (c0_2 : Nat) (l0_2 : List (S40)) (a1 : Int) (r : List Int) (w : World) (hr0_1 : Kd.C k38 w A0_1 l0_1.length l0_1) (hc0_1 : l0_1.length ≤ c0_1) (hr0_2 : Kd.C k40 w A0_2 l0_2.length l0_2) (hc0_2 : l0_2.length ≤ c0_2) (h : zbq.f k a0_0 l0_1 l0_2 a1 = some r) :
  Calls Tryz.prog 14 #[.agg #[.string a0_0, .slice A0_1 l0_1.length c0_1, .slice A0_2 l0_2.length c0_2], .int .i64 a1] w fun e w' => ∃ v0_ : Value, e = .returned (v0_) ∧ Kd.R (Kd.int .i64) 3 w' w.heap.size (fun _ => True) v0_ r ∧ Below w.heap.size w w' := by
 have HC := Aside0.mk hr0_1
 have HH := Aside0.mk (show zam.l0 k a1 [] 0 a0_0 l0_1 l0_2 = some r from h)
 clear hr0_1 hc0_1 hr0_2 hc0_2 h
 go_enter Tryz.func14, Tryz.ntmps14
 go_wp2_with fail
 have HW := Aside0.mk (low0 w (.cells #[.string a0_0, .slice A0_1 l0_1.length c0_1, .slice A0_2 l0_2.length c0_2] 25) (.cells #[.int .i64 a1] 3))
 refine (which_calls k a0_0 l0_2 A0_1 c0_1 l0_1 (w.heap.size + 1) a1 r _ (Kd.C_below HC.out (HW.out.1.mono (Nat.le_refl _))) HW.out.2.1 HH.out).mono ?_
 rintro e w3 ⟨v0, rfl, hr, hb⟩
 have HR := Aside0.mk (Kd.R_lower hr HW.out.2.2)
 have HB := Aside0.mk (below_step HW.out.1 hb)
 clear hr hb
 go_wp2
 go_ret
 exact ⟨_, rfl, HR.out, HB.out⟩
end Go.Proofs.YtcaegaljhogbjaaGreatDoor.Gr
