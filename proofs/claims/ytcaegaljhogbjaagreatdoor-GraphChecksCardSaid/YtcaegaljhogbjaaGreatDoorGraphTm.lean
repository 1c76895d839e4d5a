/- graph.Timers, walked by hand. -/
import Derived.Test.YtcaegaljhogbjaaGreatDoorGraphIn
import Derived.Test.YtcaegaljhogbjaaGreatDoorGraphMore
set_option linter.unusedVariables false
set_option linter.unusedSimpArgs false
namespace Go.Proofs.YtcaegaljhogbjaaGreatDoor.Gr
open Go.RowKit Go.Lib Go.Sort Go.Proofs.YtcaegaljhogbjaaGreatDoorW.PrintWords Go.Proofs.YtcaegaljhogbjaaGreatDoorW.PrintLast Go.Proofs.YtcaegaljhogbjaaGreatDoorW.PrintMore Go.Proofs.YtcaegaljhogbjaaGreatDoor.Y Go.Proofs.YtcaegaljhogbjaaGreatDoor.Gd

def whN (P : S38 → Bool) : Nat → List Int → Int → List S38 → Option (List Int)
 | 0, _, _, _ => none
 | k + 1, xs, i, l => if i < (l.length : Int) then (if 0 ≤ i then (if P (zba l i) = true then (if xs.length < 17592186044416 then whN P k (xs ++ [wrap64 (i + 1)]) (wrap64 (i + 1)) l else none) else whN P k xs (wrap64 (i + 1)) l) else none) else some xs
theorem whN_mono (P : S38 → Bool) : ∀ k xs i l, LeO (whN P k xs i l) (whN P (k + 1) xs i l)
 | 0, _, _, _ => fun r h => by simp [whN] at h
 | k + 1, xs, i, l => by
  rw [whN, whN]
  refine LeO.ite (LeO.ite (LeO.ite (LeO.ite (whN_mono P k _ _ l) (LeO.refl _)) (whN_mono P k _ _ l)) (LeO.refl _)) (LeO.refl _)
set_option maxHeartbeats 8000000 in
set_option maxRecDepth 100000 in
theorem whN_calls (P : S38 → Bool) (g : FuncId) (eg : ∀ args w, (callFunc g args).run Tryz.prog w = .ok (.enter g args) w) (fv : Array Value) (k : Nat) (A1 : Option Addr) (c1 : Nat) (l : List S38) (r : List Int) (w : World)
  (hP : ∀ (x : S38) (W : World), Below w.heap.size w W → Calls Tryz.prog g (#[.agg #[.int .i64 x.f0, .int .i64 x.f1, .int .i64 x.f2, .int .i64 x.f3, .string x.f4]] ++ fv) W fun e w' => e = .returned (.bool (P x)) ∧ Below W.heap.size W w')
  (hC : Kd.C k38 w A1 l.length l) (h : whN P k [] 0 l = some r) :
  Calls Tryz.prog 36 #[.slice A1 l.length c1, .func (.func g) #[] fv] w fun e w' => ∃ v0 : Value, e = .returned v0 ∧ Kd.R (Kd.int .i64) 3 w' w.heap.size (fun _ => True) v0 r ∧ Below w.heap.size w w' := by
 have HC := Aside0.mk hC
 have HP := Aside0.mk hP
 have H' := Aside0.mk h
 clear hC hP h
 have HB := Aside0.mk (Below.refl w.heap.size w)
 go_enter Tryz.func36, Tryz.ntmps36
 go_wp2_with fail
 go_loopg [5, 10] k (fun kq v5 v10 wr => ∃ (xs : List Int) (i : Int), v10 = .int .i64 i ∧ Aside0 (whN P kq xs i l = some r) ∧ Aside0 (kq ≤ k) ∧ Aside0 (Kd.R (Kd.int .i64) 3 wr w.heap.size (fun _ => True) v5 xs) ∧ Aside0 (Below w.heap.size w wr))
 case atStart => exact ⟨[], 0, rfl, H', ⟨Nat.le_refl _⟩, ⟨Kd.R_nil _ _ _ _ _⟩, HB⟩
 case round =>
  clear H'
  obtain ⟨xs, i, rfl, HA, HK1, HO, HB⟩ := hrel
  cases gk with
  | zero => exact absurd HA.out (by simp [whN])
  | succ k1 =>
   have H := HA.out
   clear HA
   simp only [whN] at H
   by_cases c4 : i < (l.length : Int)
   ·
    rw [if_pos c4] at H
    have c4b0 : decide (i < (l.length : Int)) = true := decide_eq_true c4
    by_cases c5 : 0 ≤ i
    ·
     rw [if_pos c5] at H
     obtain ⟨ad, rfl, e0, e1, e2, e3, e4⟩ := zbc (Kd.C_below HC.out HB.out) i c5 c4
     replace c4 := eq_true c4
     replace c5 := eq_true c5
     generalize zba l i = x at *
     have HD := Aside0.mk (fun W (hW : Below wr.heap.size wr W) => HP.out x W (below_step HB.out hW))
     have H' := H
     clear H
     obtain ⟨bx, hbx⟩ : ∃ bx, P x = bx := ⟨_, rfl⟩
     rw [hbx] at HD H'
     clear hbx
     obtain ⟨f0, f1, f2, f3, f4⟩ := x
     dsimp only at e0 e1 e2 e3 e4 HD H'
     cases bx with
     | true =>
      rw [if_pos rfl] at H'
      by_cases c7 : xs.length < 17592186044416
      ·
       rw [if_pos c7] at H'
       have LM := Aside0.mk c7
       have HH := Aside0.mk H'
       clear c7 H'
       go_wp2_with (first | (go_at_fn g; (with_reducible refine (HD.out _ (below_alloc (Below.refl _ _) _)).mono ?_); rintro e w3 ⟨rfl, hb3⟩; have n0 := Aside0.mk (below_step (below_alloc HB.out _) hb3); have n1 := Aside0.mk (Kd.R_below (Kd.R_alloc HO.out _) hb3); clear HB HO; have HB := n0; have HO := n1; clear n0 n1 hb3) | ((with_reducible refine gate_builtin (b := .append) (xs := #[.tmp 18, .tmp 21]) rfl ?_); at_builtin; refine Kd.R_append (Kd.int .i64) (w0 := w) w.heap.size rfl (.tmp 18) (.tmp 21) 36 3 (.int .i64 0) 8 rfl Tryz.underlying36 info3 rfl (by decide) (by omega) u5 xs (wrap64 (i + 1)) [.int .i64 (wrap64 (i + 1))] (fun _ => True) (fun _ => False) rfl rfl ?aP (fun _ hk => hk.elim) ?aF ?aO ?aB ?aS ?aL ?_; (case aP => exact rfl); (case aB => exact (by repeat (first | exact HB.out | apply below_alloc | apply pw_below_drewN | apply below_drew1))); (case aF => exact (fun _ _ => trivial)); (case aO => exact (by (with_reducible repeat (first | apply Kd.R_alloc | apply Kd.R_drewN | apply Kd.R_drew)); exact HO.out)); (case aS => exact (below_size (by repeat (first | exact HB.out | apply below_alloc | apply pw_below_drewN | apply below_drew1)))); (case aL => have := LM.out; omega); intro v9 w9 ho hb hg hat; have n0 := Aside0.mk hb; have n1 := Aside0.mk ho; clear HB HO; have HB := n0; have HO := n1; clear n0 n1 ho hb hg hat))
       go_roundg k1
       case measure => have := HK1.out; omega
       case rel => exact ⟨xs ++ [wrap64 (i + 1)], wrap64 (i + 1), rfl, HH, ⟨by have := HK1.out; omega⟩, HO, HB⟩
      ·
       rw [if_neg c7] at H'
       cases H'
     | false =>
      rw [if_neg (by decide)] at H'
      have HH := Aside0.mk H'
      clear H'
      go_wp2_with (first | (go_at_fn g; (with_reducible refine (HD.out _ (below_alloc (Below.refl _ _) _)).mono ?_); rintro e w3 ⟨rfl, hb3⟩; have n0 := Aside0.mk (below_step (below_alloc HB.out _) hb3); have n1 := Aside0.mk (Kd.R_below (Kd.R_alloc HO.out _) hb3); clear HB HO; have HB := n0; have HO := n1; clear n0 n1 hb3))
      go_roundg k1
      case measure => have := HK1.out; omega
      case rel => exact ⟨xs, wrap64 (i + 1), rfl, HH, ⟨by have := HK1.out; omega⟩, HO, HB⟩
    ·
     rw [if_neg c5] at H
     exact absurd H (by simp)
   ·
    rw [if_neg c4] at H
    have c4b0 : decide (i < (l.length : Int)) = false := decide_eq_false c4
    obtain rfl := Option.some.inj H
    clear H
    go_wp2
    go_ret
    exact ⟨_, rfl, HO.out, HB.out⟩
end Go.Proofs.YtcaegaljhogbjaaGreatDoor.Gr

set_option maxHeartbeats 4000000
set_option maxRecDepth 100000
set_option linter.unusedVariables false
set_option linter.unusedSimpArgs false
namespace Go.Proofs.YtcaegaljhogbjaaGreatDoor.Gr
open Go.RowKit Go.Lib Go.Sort Go.Proofs.YtcaegaljhogbjaaGreatDoorW.PrintWords Go.Proofs.YtcaegaljhogbjaaGreatDoorW.PrintLast Go.Proofs.YtcaegaljhogbjaaGreatDoorW.PrintMore Go.Proofs.YtcaegaljhogbjaaGreatDoor.Y Go.Proofs.YtcaegaljhogbjaaGreatDoor.Gd

abbrev Tab (w : World) : Prop := Wrong w
theorem Tab.below {w w' : World} (h : Tab w) (b : Below w.heap.size w w') : Tab w' := Wrong.below h b
def tmP (a : Int) (x : S38) : Bool := decide (a > 0) && decide (x.f0 = 8 ∨ x.f0 = 9) && x.f3 == a
theorem timers1_calls (x : S38) (a : Int) (b : Nat) (w : World) (hb : w.cell? ⟨b, 0, none⟩ = some (.int .i64 a)) :
    Calls Tryz.prog 42 #[.agg #[.int .i64 x.f0, .int .i64 x.f1, .int .i64 x.f2, .int .i64 x.f3, .string x.f4], .pointer (some ⟨b, 0, none⟩)] w fun e w' => e = .returned (.bool (tmP a x)) ∧ Below w.heap.size w w' := by
  have hlt := World.block_lt_of_cell? w _ hb
  have hne : b ≠ w.heap.size := Nat.ne_of_lt hlt
  obtain ⟨f0, f1, f2, f3, f4⟩ := x
  unfold tmP
  dsimp only
  have HB := Aside0.mk (below_alloc (Below.refl w.heap.size w) (.cells #[.int .i64 f0, .int .i64 f1, .int .i64 f2, .int .i64 f3, .string f4] 38))
  obtain ⟨hg, hhg⟩ : ∃ hg, decide (f0 = 8 ∨ f0 = 9) = hg := ⟨_, rfl⟩
  have HH := Aside0.mk (hangs_eq f0)
  rw [hhg] at HH ⊢
  clear hhg
  by_cases ha : a > 0
  · have hab : decide (a > 0) = true := decide_eq_true ha
    rw [hab]
    cases hg with
    | true =>
      go_enter Tryz.func42, Tryz.ntmps42
      go_wp2_with (go_at_call 43; (with_reducible refine (zbk.calls _ _ _ HH.out).mono ?_); rintro e w7 ⟨rfl, ⟨nq, rfl⟩⟩)
      go_ret
      exact ⟨rfl, by repeat (first | exact HB.out | apply pw_below_drewN | apply below_drew1)⟩
    | false =>
      go_enter Tryz.func42, Tryz.ntmps42
      go_wp2_with (go_at_call 43; (with_reducible refine (zbk.calls _ _ _ HH.out).mono ?_); rintro e w7 ⟨rfl, ⟨nq, rfl⟩⟩)
      go_ret
      exact ⟨rfl, by repeat (first | exact HB.out | apply pw_below_drewN | apply below_drew1)⟩
  · have hab : decide (a > 0) = false := decide_eq_false ha
    rw [hab]
    go_enter Tryz.func42, Tryz.ntmps42
    go_wp2
    go_ret
    exact ⟨rfl, by repeat (first | exact HB.out | apply pw_below_drewN | apply below_drew1)⟩
def zbr.f (k : Nat) (a0_0 : ByteArray) (l0_1 : List S38) (l0_2 : List S40) (a1 : Int) : Option (List Int) := whN (tmP a1) k [] 0 l0_1
theorem zbr.mono : ∀ a0 a1 a2 a3 k, LeO (zbr.f k a0 a1 a2 a3) (zbr.f (k + 1) a0 a1 a2 a3) := fun _ l1 _ a k => whN_mono (tmP a) k [] 0 l1
theorem zbr.calls (k : Nat) (a0_0 : ByteArray) (A0_1 : Option Addr) (c0_1 : Nat) (l0_1 : List (S38)) (A0_2 : Option Addr) (c0_2 : Nat) (l0_2 : List (S40)) (a1 : Int) (r : List Int) (w : World) (hr0_1 : Kd.C k38 w A0_1 l0_1.length l0_1) (hc0_1 : l0_1.length ≤ c0_1) (hr0_2 : Kd.C k40 w A0_2 l0_2.length l0_2) (hc0_2 : l0_2.length ≤ c0_2) (h : zbr.f k a0_0 l0_1 l0_2 a1 = some r) :
    Calls Tryz.prog 18 #[.agg #[.string a0_0, .slice A0_1 l0_1.length c0_1, .slice A0_2 l0_2.length c0_2], .int .i64 a1] w fun e w' => ∃ v0_ : Value, e = .returned (v0_) ∧ Kd.R (Kd.int .i64) 3 w' w.heap.size (fun _ => True) v0_ r ∧ Below w.heap.size w w' := by
  have HC := Aside0.mk hr0_1
  have HH := Aside0.mk (show whN (tmP a1) k [] 0 l0_1 = some r from h)
  clear hr0_1 hc0_1 hr0_2 hc0_2 h
  go_enter Tryz.func18, Tryz.ntmps18
  go_wp2_with fail
  have HW := Aside0.mk (low0 w (.cells #[.string a0_0, .slice A0_1 l0_1.length c0_1, .slice A0_2 l0_2.length c0_2] 25) (.cells #[.int .i64 a1] 3))
  refine (whN_calls (tmP a1) 42 (enters_of Tryz.func42 (by kernel_rfl) rfl) #[.pointer (some ⟨w.heap.size + 1, 0, none⟩)] k A0_1 c0_1 l0_1 r _
    (fun x W hW => timers1_calls x a1 (w.heap.size + 1) W ((hW.cell (World.block_lt_of_cell? _ _ HW.out.2.1)).trans HW.out.2.1)) (Kd.C_below HC.out (HW.out.1.mono (Nat.le_refl _))) HH.out).mono ?_
  rintro e w3 ⟨v0, rfl, hr, hb⟩
  have HR := Aside0.mk (Kd.R_lower hr HW.out.2.2)
  have HB := Aside0.mk (below_step HW.out.1 hb)
  clear hr hb
  go_wp2
  go_ret
  exact ⟨_, rfl, HR.out, HB.out⟩
end Go.Proofs.YtcaegaljhogbjaaGreatDoor.Gr
