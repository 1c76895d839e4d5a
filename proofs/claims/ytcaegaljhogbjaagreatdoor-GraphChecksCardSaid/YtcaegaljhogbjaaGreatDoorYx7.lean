/- What Go functions compute, as plain Lean functions, and that the machine comes to just that: written by wip/tools/printx.py (my run of the printer, with contracts of mine beside it). -/
import Derived.Test.YtcaegaljhogbjaaGreatDoorOn
import Derived.Test.YtcaegaljhogbjaaGreatDoorYx0
namespace Go.Proofs.YtcaegaljhogbjaaGreatDoor.Y
open Go.Proofs.YtcaegaljhogbjaaGreatDoor.Ext Go.Proofs.YtcaegaljhogbjaaGreatDoor.B Go.Proofs.YtcaegaljhogbjaaGreatDoor.Q Go.RowKit Go.Proofs.YtcaegaljhogbjaaGreatDoorW.PrintWords Go.Proofs.YtcaegaljhogbjaaGreatDoorW.PrintLast Go.Proofs.YtcaegaljhogbjaaGreatDoorW.PrintMore
attribute [local go_sem] max2_int min2_int max_two min_two max_three min_three max_four min_four   -- for this text's walks alone
set_option linter.unusedVariables false
set_option linter.unusedSimpArgs false

/-! ### zai: function 7 -/
mutual
def zai.j0 : Nat → Bool → ByteArray → List (S38) → List (S40) → Option (Bool)
 | 0, _, _, _, _ => none
 | k + 1, x20, x206000, x206001, x206002 => if x20 = true then (some false) else (zai.l0 k 0 x206000 x206001 x206002)
def zai.l0 : Nat → Int → ByteArray → List (S38) → List (S40) → Option (Bool)
 | 0, _, _, _, _ => none
 | k + 1, x3, x206000, x206001, x206002 => if x3 < (x206001.length : Int) then (if 0 ≤ x3 then (if (((zba x206001 x3).f4).size : Int) > 80 then (some false) else (zai.l0 k (wrap64 (x3 + 1)) x206000 x206001 x206002)) else (none)) else (zai.l1 k 0 x206000 x206001 x206002)
def zai.l1 : Nat → Int → ByteArray → List (S38) → List (S40) → Option (Bool)
 | 0, _, _, _, _ => none
 | k + 1, x4, x206000, x206001, x206002 => if x4 < (x206002.length : Int) then (if 0 ≤ x4 then (if (((zbb x206002 x4).f4).size : Int) > 80 then (some false) else (zai.l1 k (wrap64 (x4 + 1)) x206000 x206001 x206002)) else (none)) else (some true)
end
def zai.f (k : Nat) (a0_0 : ByteArray) (l0_1 : List (S38)) (l0_2 : List (S40)) : Option (Bool) := if (l0_1.length : Int) > 70 then (zai.j0 k true a0_0 l0_1 l0_2) else (if (l0_2.length : Int) > 110 then (zai.j0 k true a0_0 l0_1 l0_2) else (zai.j0 k (decide ((a0_0.size : Int) > 60)) a0_0 l0_1 l0_2))
set_option maxHeartbeats 8000000 in
set_option maxRecDepth 100000 in
theorem zai.calls (k : Nat) (a0_0 : ByteArray) (A0_1 : Option Addr) (c0_1 : Nat) (l0_1 : List (S38)) (A0_2 : Option Addr) (c0_2 : Nat) (l0_2 : List (S40)) (r : Bool) (w : World) (hr0_1 : Kd.C k38 w A0_1 l0_1.length l0_1) (hc0_1 : l0_1.length ≤ c0_1) (hr0_2 : Kd.C k40 w A0_2 l0_2.length l0_2) (hc0_2 : l0_2.length ≤ c0_2) (h : zai.f k a0_0 l0_1 l0_2 = some r) :
  Calls Tryz.prog 7 #[.agg #[.string a0_0, .slice A0_1 l0_1.length c0_1, .slice A0_2 l0_2.length c0_2]] w fun e w' => e = .returned (.bool r) ∧ Below w.heap.size w w' := by
 have hu25 := Tryz.underlying25
 have HR0_1 := mk0 hr0_1
 have HC0_1 := mk0 hc0_1
 clear hr0_1 hc0_1
 have HR0_2 := mk0 hr0_2
 have HC0_2 := mk0 hc0_2
 clear hr0_2 hc0_2
 have HB := mk0 (Below.refl w.heap.size w)
 have H : (if (l0_1.length : Int) > 70 then (zai.j0 k true a0_0 l0_1 l0_2) else (if (l0_2.length : Int) > 110 then (zai.j0 k true a0_0 l0_1 l0_2) else (zai.j0 k (decide ((a0_0.size : Int) > 60)) a0_0 l0_1 l0_2))) = some r := h
 clear h
 have HC2 := mk0 H
 clear H
 go_enter Tryz.func7, Tryz.ntmps7
 go_upto_region 1 with (first | ((with_reducible refine gate_dst (N := 1) rfl ?_); (try (refine gate_guard (by rfl) ?_; dsimp only)); refine box_event ?hg (N := 1) ?hd (cs := #[.string a0_0, .slice A0_1 l0_1.length c0_1, .slice A0_2 l0_2.length c0_2]) (t := 25) ?hr ?_; (case hd => rfl); (case hg => rfl); (case hr => first | (go_simp; done) | (go_simp; rfl)); intro gb205 hg w3 hbox hb; have n0_ := mk0 (bst HB.out hb); have n1_ := mk0 (hbox); have n2_ := mk0 (gle hg HB.out); have n3_ := mk0 (gle hg HB.out); clear HB; have HB := n0_; have BK205 := n1_; have GW205 := n2_; have GE205 := n3_; clear n0_ n1_ n2_ n3_; clear hb hbox hg))
 (try simp only [Act.put, List.setIfInBounds_toArray, List.set_cons_zero, List.set_cons_succ])
 go_cut [20] (fun v20 wc => ∃ (kq : Nat) (x20_1 : Bool), v20 = .bool x20_1 ∧ Aside0 (zai.j0 kq x20_1 a0_0 l0_1 l0_2 = some r) ∧ Aside0 (kq ≤ k) ∧ Aside0 (wc.heap[gb205]? = some (.cells #[.string a0_0, (.slice A0_1 l0_1.length c0_1), (.slice A0_2 l0_2.length c0_2)] 25 (0, 0))) ∧ Aside0 (Below w.heap.size w wc))
 case first =>
  have H := HC2.out
  clear HC2
  by_cases c4 : (l0_1.length : Int) > 70
  ·
   rw [if_pos c4] at H
   have c4b0 : decide (70 < (l0_1.length : Int)) = true := decide_eq_true c4
   have c4b1 : decide (70 < l0_1.length) = true := decide_eq_true (by omega)
   clear c4
   (first | rw [c4b0] | (simp only [i64_w, i32_w]; rw [c4b0]) | skip)
   have H' := mk0 H
   clear H
   obtain ⟨hcz5_0, hcz5_1, hcz5_2, hfz5_0, hfz5_1, hfz5_2⟩ := blk3 BK205.out
   go_wp2
   go_meet
   case rel => exact ⟨_, (true), (by first | rfl | (simp; done) | (simp [*]; done)), H', ⟨by first | omega | exact Nat.le_refl _⟩, ⟨by exact obk BK205.out⟩, ⟨by exact bok HB.out⟩⟩
  ·
   rw [if_neg c4] at H
   have c4b0 : decide (70 < (l0_1.length : Int)) = false := decide_eq_false c4
   have c4b1 : decide (70 < l0_1.length) = false := decide_eq_false (by omega)
   clear c4
   (first | rw [c4b0] | (simp only [i64_w, i32_w]; rw [c4b0]) | skip)
   by_cases c6 : (l0_2.length : Int) > 110
   ·
    rw [if_pos c6] at H
    have c6b0 : decide (110 < (l0_2.length : Int)) = true := decide_eq_true c6
    have c6b1 : decide (110 < l0_2.length) = true := decide_eq_true (by omega)
    clear c6
    have H' := mk0 H
    clear H
    obtain ⟨hcz7_0, hcz7_1, hcz7_2, hfz7_0, hfz7_1, hfz7_2⟩ := blk3 BK205.out
    go_wp2
    go_meet
    case rel => exact ⟨_, (true), (by first | rfl | (simp; done) | (simp [*]; done)), H', ⟨by first | omega | exact Nat.le_refl _⟩, ⟨by exact obk BK205.out⟩, ⟨by exact bok HB.out⟩⟩
   ·
    rw [if_neg c6] at H
    have c6b0 : decide (110 < (l0_2.length : Int)) = false := decide_eq_false c6
    have c6b1 : decide (110 < l0_2.length) = false := decide_eq_false (by omega)
    clear c6
    have H' := mk0 H
    clear H
    obtain ⟨hcz8_0, hcz8_1, hcz8_2, hfz8_0, hfz8_1, hfz8_2⟩ := blk3 BK205.out
    go_wp2
    go_meet
    case rel => exact ⟨_, (decide ((a0_0.size : Int) > 60)), (by first | rfl | (simp; done) | (simp [*]; done)), H', ⟨by first | omega | exact Nat.le_refl _⟩, ⟨by exact obk BK205.out⟩, ⟨by exact bok HB.out⟩⟩
 case rest =>
  clear HC2
  obtain ⟨kq, x20_1, rfl, HA, HJ1, BK205, HB⟩ := hcut
  cases kq with
  | zero => exact absurd HA.out (by simp [zai.j0])
  | succ kj1 =>
   have H := HA.out
   clear HA
   simp only [zai.j0] at H
   by_cases c9 : x20_1 = true
   ·
    subst c9
    have H1 : (some false) = some r := by rw [if_pos rfl] at H; exact H
    clear H
    have H := H1
    clear H1
    obtain rfl := Option.some.inj H
    go_wp2
    go_ret
    exact ⟨by first | rfl | (simp [*, zbe, zbf] <;> rfl) | (simp [zbe, zbf]; exact isEmpty_ne _), by exact bok HB.out⟩
   ·
    replace c9 := Bool.eq_false_iff.mpr c9
    subst c9
    have H1 : (zai.l0 kj1 0 a0_0 l0_1 l0_2) = some r := by rw [if_neg (show ¬ (false = true) by decide)] at H; exact H
    clear H
    have H := H1
    clear H1
    have H' := mk0 H
    clear H
    go_wp2
    go_loopg [3] kj1 (fun kq v3 w' => ∃ (x3_2 : Int), v3 = .int .i64 x3_2 ∧ Aside0 (zai.l0 kq x3_2 a0_0 l0_1 l0_2 = some r) ∧ Aside0 (kq ≤ kj1) ∧ Aside0 (w'.heap[gb205]? = some (.cells #[.string a0_0, (.slice A0_1 l0_1.length c0_1), (.slice A0_2 l0_2.length c0_2)] 25 (0, 0))) ∧ Aside0 (Below w.heap.size w w'))
    case atStart => exact ⟨(0), (by first | rfl | (simp; done) | (simp [*]; done)), H', ⟨Nat.le_refl _⟩, ⟨by exact obk BK205.out⟩, ⟨by exact bok HB.out⟩⟩
    case round =>
     clear H'
     obtain ⟨x3_2, rfl, HA, HK2, BK205, HB⟩ := hrel
     cases gk with
     | zero => exact absurd HA.out (by simp [zai.l0])
     | succ k2 =>
      have H := HA.out
      clear HA
      simp only [zai.l0] at H
      by_cases c10 : x3_2 < (l0_1.length : Int)
      ·
       rw [if_pos c10] at H
       have c10b0 : decide (x3_2 < (l0_1.length : Int)) = true := decide_eq_true c10
       clear c10
       by_cases c11 : 0 ≤ x3_2
       ·
        rw [if_pos c11] at H
        have c11b0 : decide (0 ≤ x3_2) = true := decide_eq_true c11
        clear c11
        by_cases c12 : (((zba l0_1 x3_2).f4).size : Int) > 80
        ·
         rw [if_pos c12] at H
         have c12b0 : decide (80 < (((zba l0_1 x3_2).f4).size : Int)) = true := decide_eq_true c12
         have c12b1 : decide (80 < ((zba l0_1 x3_2).f4).size) = true := decide_eq_true (by omega)
         clear c12
         obtain rfl := Option.some.inj H
         obtain ⟨hcz13_0, hcz13_1, hcz13_2, hfz13_0, hfz13_1, hfz13_2⟩ := blk3 BK205.out
         have p206 : 0 ≤ (x3_2 : Int) := of_decide_eq_true (by assumption)
         have q206 : x3_2 < (l0_1.length : Int) := of_decide_eq_true (by assumption)
         obtain ⟨ad206, e206, hx206_0, hx206_1, hx206_2, hx206_3, hx206_4⟩ := zbc HR0_1.out x3_2 p206 q206
         cases e206
         replace hx206_0 := (HB.out.cell (World.block_lt_of_cell? w _ hx206_0)).trans hx206_0
         replace hx206_1 := (HB.out.cell (World.block_lt_of_cell? w _ hx206_1)).trans hx206_1
         replace hx206_2 := (HB.out.cell (World.block_lt_of_cell? w _ hx206_2)).trans hx206_2
         replace hx206_3 := (HB.out.cell (World.block_lt_of_cell? w _ hx206_3)).trans hx206_3
         replace hx206_4 := (HB.out.cell (World.block_lt_of_cell? w _ hx206_4)).trans hx206_4
         replace p206 := eq_true p206
         replace q206 := eq_true q206
         go_wp2
         go_ret
         exact ⟨by first | rfl | (simp [*, zbe, zbf] <;> rfl) | (simp [zbe, zbf]; exact isEmpty_ne _), by exact bok HB.out⟩
        ·
         rw [if_neg c12] at H
         have c12b0 : decide (80 < (((zba l0_1 x3_2).f4).size : Int)) = false := decide_eq_false c12
         have c12b1 : decide (80 < ((zba l0_1 x3_2).f4).size) = false := decide_eq_false (by omega)
         clear c12
         have H' := mk0 H
         clear H
         obtain ⟨hcz14_0, hcz14_1, hcz14_2, hfz14_0, hfz14_1, hfz14_2⟩ := blk3 BK205.out
         have p206 : 0 ≤ (x3_2 : Int) := of_decide_eq_true (by assumption)
         have q206 : x3_2 < (l0_1.length : Int) := of_decide_eq_true (by assumption)
         obtain ⟨ad206, e206, hx206_0, hx206_1, hx206_2, hx206_3, hx206_4⟩ := zbc HR0_1.out x3_2 p206 q206
         cases e206
         replace hx206_0 := (HB.out.cell (World.block_lt_of_cell? w _ hx206_0)).trans hx206_0
         replace hx206_1 := (HB.out.cell (World.block_lt_of_cell? w _ hx206_1)).trans hx206_1
         replace hx206_2 := (HB.out.cell (World.block_lt_of_cell? w _ hx206_2)).trans hx206_2
         replace hx206_3 := (HB.out.cell (World.block_lt_of_cell? w _ hx206_3)).trans hx206_3
         replace hx206_4 := (HB.out.cell (World.block_lt_of_cell? w _ hx206_4)).trans hx206_4
         replace p206 := eq_true p206
         replace q206 := eq_true q206
         go_wp2
         go_roundg k2
         case measure => have := HJ1.out; have := HK2.out; omega
         case rel => exact ⟨(wrap64 (x3_2 + 1)), (by first | rfl | (simp; done) | (simp [*]; done)), H', ⟨by have := HJ1.out; have := HK2.out; omega⟩, ⟨by exact obk BK205.out⟩, ⟨by exact bok HB.out⟩⟩
       ·
        rw [if_neg c11] at H
        exact absurd H (by simp)
      ·
       rw [if_neg c10] at H
       have c10b0 : decide (x3_2 < (l0_1.length : Int)) = false := decide_eq_false c10
       clear c10
       have H' := mk0 H
       clear H
       obtain ⟨hcz15_0, hcz15_1, hcz15_2, hfz15_0, hfz15_1, hfz15_2⟩ := blk3 BK205.out
       go_wp2
       go_loopg [4] k2 (fun kq v4 w' => ∃ (x4_3 : Int), v4 = .int .i64 x4_3 ∧ Aside0 (zai.l1 kq x4_3 a0_0 l0_1 l0_2 = some r) ∧ Aside0 (kq ≤ k2) ∧ Aside0 (w'.heap[gb205]? = some (.cells #[.string a0_0, (.slice A0_1 l0_1.length c0_1), (.slice A0_2 l0_2.length c0_2)] 25 (0, 0))) ∧ Aside0 (Below w.heap.size w w'))
       case atStart => exact ⟨(0), (by first | rfl | (simp; done) | (simp [*]; done)), H', ⟨Nat.le_refl _⟩, ⟨by exact obk BK205.out⟩, ⟨by exact bok HB.out⟩⟩
       case round =>
        clear H'
        obtain ⟨x4_3, rfl, HA, HK3, BK205, HB⟩ := hrel
        cases gk with
        | zero => exact absurd HA.out (by simp [zai.l1])
        | succ k3 =>
         have H := HA.out
         clear HA
         simp only [zai.l1] at H
         by_cases c16 : x4_3 < (l0_2.length : Int)
         ·
          rw [if_pos c16] at H
          have c16b0 : decide (x4_3 < (l0_2.length : Int)) = true := decide_eq_true c16
          clear c16
          by_cases c17 : 0 ≤ x4_3
          ·
           rw [if_pos c17] at H
           have c17b0 : decide (0 ≤ x4_3) = true := decide_eq_true c17
           clear c17
           by_cases c18 : (((zbb l0_2 x4_3).f4).size : Int) > 80
           ·
            rw [if_pos c18] at H
            have c18b0 : decide (80 < (((zbb l0_2 x4_3).f4).size : Int)) = true := decide_eq_true c18
            have c18b1 : decide (80 < ((zbb l0_2 x4_3).f4).size) = true := decide_eq_true (by omega)
            clear c18
            obtain rfl := Option.some.inj H
            obtain ⟨hcz19_0, hcz19_1, hcz19_2, hfz19_0, hfz19_1, hfz19_2⟩ := blk3 BK205.out
            have p207 : 0 ≤ (x4_3 : Int) := of_decide_eq_true (by assumption)
            have q207 : x4_3 < (l0_2.length : Int) := of_decide_eq_true (by assumption)
            obtain ⟨ad207, e207, hx207_0, hx207_1, hx207_2, hx207_3, hx207_4⟩ := zbd HR0_2.out x4_3 p207 q207
            cases e207
            replace hx207_0 := (HB.out.cell (World.block_lt_of_cell? w _ hx207_0)).trans hx207_0
            replace hx207_1 := (HB.out.cell (World.block_lt_of_cell? w _ hx207_1)).trans hx207_1
            replace hx207_2 := (HB.out.cell (World.block_lt_of_cell? w _ hx207_2)).trans hx207_2
            replace hx207_3 := (HB.out.cell (World.block_lt_of_cell? w _ hx207_3)).trans hx207_3
            replace hx207_4 := (HB.out.cell (World.block_lt_of_cell? w _ hx207_4)).trans hx207_4
            replace p207 := eq_true p207
            replace q207 := eq_true q207
            go_wp2
            go_ret
            exact ⟨by first | rfl | (simp [*, zbe, zbf] <;> rfl) | (simp [zbe, zbf]; exact isEmpty_ne _), by exact bok HB.out⟩
           ·
            rw [if_neg c18] at H
            have c18b0 : decide (80 < (((zbb l0_2 x4_3).f4).size : Int)) = false := decide_eq_false c18
            have c18b1 : decide (80 < ((zbb l0_2 x4_3).f4).size) = false := decide_eq_false (by omega)
            clear c18
            have H' := mk0 H
            clear H
            obtain ⟨hcz20_0, hcz20_1, hcz20_2, hfz20_0, hfz20_1, hfz20_2⟩ := blk3 BK205.out
            have p207 : 0 ≤ (x4_3 : Int) := of_decide_eq_true (by assumption)
            have q207 : x4_3 < (l0_2.length : Int) := of_decide_eq_true (by assumption)
            obtain ⟨ad207, e207, hx207_0, hx207_1, hx207_2, hx207_3, hx207_4⟩ := zbd HR0_2.out x4_3 p207 q207
            cases e207
            replace hx207_0 := (HB.out.cell (World.block_lt_of_cell? w _ hx207_0)).trans hx207_0
            replace hx207_1 := (HB.out.cell (World.block_lt_of_cell? w _ hx207_1)).trans hx207_1
            replace hx207_2 := (HB.out.cell (World.block_lt_of_cell? w _ hx207_2)).trans hx207_2
            replace hx207_3 := (HB.out.cell (World.block_lt_of_cell? w _ hx207_3)).trans hx207_3
            replace hx207_4 := (HB.out.cell (World.block_lt_of_cell? w _ hx207_4)).trans hx207_4
            replace p207 := eq_true p207
            replace q207 := eq_true q207
            go_wp2
            go_roundg k3
            case measure => have := HJ1.out; have := HK2.out; have := HK3.out; omega
            case rel => exact ⟨(wrap64 (x4_3 + 1)), (by first | rfl | (simp; done) | (simp [*]; done)), H', ⟨by have := HJ1.out; have := HK2.out; have := HK3.out; omega⟩, ⟨by exact obk BK205.out⟩, ⟨by exact bok HB.out⟩⟩
          ·
           rw [if_neg c17] at H
           exact absurd H (by simp)
         ·
          rw [if_neg c16] at H
          have c16b0 : decide (x4_3 < (l0_2.length : Int)) = false := decide_eq_false c16
          clear c16
          obtain rfl := Option.some.inj H
          obtain ⟨hcz21_0, hcz21_1, hcz21_2, hfz21_0, hfz21_1, hfz21_2⟩ := blk3 BK205.out
          go_wp2
          go_ret
          exact ⟨by first | rfl | (simp [*, zbe, zbf] <;> rfl) | (simp [zbe, zbf]; exact isEmpty_ne _), by exact bok HB.out⟩

end Go.Proofs.YtcaegaljhogbjaaGreatDoor.Y
