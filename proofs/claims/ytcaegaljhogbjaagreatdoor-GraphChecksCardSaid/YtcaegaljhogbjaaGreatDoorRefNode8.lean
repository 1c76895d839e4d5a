/- The reference's node, walked by hand (written by wip/tools/gen_rn.py). -/
import Derived.Test.YtcaegaljhogbjaaGreatDoorYx1
import Derived.Test.YtcaegaljhogbjaaGreatDoorGraphSpec
import Derived.BigQuiet
import Derived.Test.YtcaegaljhogbjaaGreatDoorNodeE
set_option linter.unusedVariables false
set_option linter.unusedSimpArgs false
namespace Go.Proofs.YtcaegaljhogbjaaGreatDoor.Gr
open Go.RowKit Go.Lib Go.Sort Go.Proofs.YtcaegaljhogbjaaGreatDoorW.PrintWords Go.Proofs.YtcaegaljhogbjaaGreatDoorW.PrintLast Go.Proofs.YtcaegaljhogbjaaGreatDoorW.PrintMore Go.Proofs.YtcaegaljhogbjaaGreatDoor.Y Go.Proofs.YtcaegaljhogbjaaGreatDoor.Gd

set_option maxHeartbeats 32000000 in
set_option maxRecDepth 100000 in
theorem rnode_8 (a0 : ByteArray) (A1 : Option Addr) (c1 : Nat) (l1 : List S38) (A2 : Option Addr) (c2 : Nat) (l2 : List S40) (n : Int) (w : World)
  (hl : l1.length ≤ 1000000) (hC1 : Kd.C k38 w A1 l1.length l1) (hc1 : l1.length ≤ c1) (hC2 : Kd.C k40 w A2 l2.length l2) (hc2 : l2.length ≤ c2) (hn : inL l1 n) (ha : (nd l1 n).f4.size ≤ 1000) (hg : (nd l1 n).f0 = 8) :
  Calls Tryz.prog 28 #[.agg #[.string a0, .slice A1 l1.length c1, .slice A2 l2.length c2], .int .i64 n] w fun e w' => e = .returned (.int .i64 (nodeE l1 n (nd l1 n))) ∧ Below w.heap.size w w' := by
 obtain ⟨hwn, p, q⟩ := in_w hl hn
 clear hwn
 have hw := rtime_eq (s := a0) (l2 := l2) hl hn
 have e1 := ropens_eq (s := a0) (l2 := l2) hl (nd l1 n).f1
 rw [← at_kind] at e1
 have e2 := kind_eq (s := a0) (l2 := l2) hl (nd l1 n).f3
 rw [← at_kind] at e2
 have f3 : (atS l1 (nd l1 n).f3).f0 ≠ 0 → 0 ≤ wrap64 ((nd l1 n).f3 - 1) ∧ wrap64 ((nd l1 n).f3 - 1) < (l1.length : Int) ∧ (atS l1 (nd l1 n).f3).f1 = (zba l1 (wrap64 ((nd l1 n).f3 - 1))).f1 := fun h => by
  rw [at_kind] at h
  have hi := kind_in h
  obtain ⟨_, a, b⟩ := in_w hl hi
  exact ⟨a, b, by rw [at_nd hi]; rfl⟩
 rw [nodeE_at, show decide ((atS l1 (nd l1 n).f3).f0 = 3 ∨ (atS l1 (nd l1 n).f3).f0 = 7) = (decide ((atS l1 (nd l1 n).f3).f0 = 3) || decide ((atS l1 (nd l1 n).f3).f0 = 7)) from Bool.decide_or _ _]
 unfold nd at *
 have hjw : (IntKind.i64.wrap (n - 1)) = wrap64 (n - 1) := i64_w _
 generalize wrap64 (n - 1) = j at *
 obtain ⟨ad, e, hx0, hx1, hx2, hx3, hx4⟩ := zbc hC1 j p q
 subst e
 have HC1 := Aside0.mk hC1
 have HC2 := Aside0.mk hC2
 have HL1 := Aside0.mk hc1
 have HL2 := Aside0.mk hc2
 have hbl := World.block_lt_of_cell? w _ hx0
 have hne : (ad.add (j.toNat * 5)).block ≠ w.heap.size := Nat.ne_of_lt hbl
 have p' := eq_true p
 have q' := eq_true q
 generalize zba l1 j = x at *
 obtain ⟨x0, x1, x2, x3, x4⟩ := x
 dsimp only at *
 subst x0
 have HWT := Aside0.mk (fun h => hw h ha 5003 (Nat.le_refl _))
 obtain ⟨tv, htv⟩ : ∃ b, timeV ⟨8, x1, x2, x3, x4⟩ = b := ⟨_, rfl⟩
 obtain ⟨em, hem⟩ : ∃ b, (x4.toList == ([] : List UInt8)) = b := ⟨_, rfl⟩
 have hem' : (x4.toList != ([] : List UInt8)) = !em := by rw [← hem]; rfl
 rw [htv] at HWT ⊢
 rw [hem]
 generalize (atS l1 x1).f0 = sk at *
 generalize (atS l1 x3).f0 = oo at *
 generalize (atS l1 x3).f1 = os at *
 have hjo : (IntKind.i64.wrap (x3 - 1)) = wrap64 (x3 - 1) := i64_w _
 generalize wrap64 (x3 - 1) = jo at *
 generalize opn sk = ob at *
 have HOB := Aside0.mk e1
 have HKD := Aside0.mk e2
 have HU := Aside0.mk (fun h => by
  obtain ⟨a, b, c⟩ := f3 h
  obtain ⟨ad', e, _, u1, _⟩ := zbc hC1 jo a b
  obtain rfl := Option.some.inj e
  rw [← c] at u1
  exact (show (0 ≤ jo ∧ jo < (l1.length : Int)) ∧ w.cell? ⟨(ad.add (jo.toNat * 5)).block, (ad.add (jo.toNat * 5)).off + 1, none⟩ = some (.int .i64 os) from ⟨⟨a, b⟩, u1⟩))
 clear hC1 hC2 hc1 hc2 e1 e2 f3 hw hl hn ha htv
 have HBX := Aside0.mk (Bx.new w #[.string a0, .slice (some ad) l1.length c1, .slice A2 l2.length c2] 25 #[.int .i64 8, .int .i64 x1, .int .i64 x2, .int .i64 x3, .string x4] 38)
 have HLOW := Aside0.mk HBX.out.low
 obtain ⟨g0, g1, g2⟩ := zbh HBX.out.1.out
 obtain ⟨z0, z1, z2, z3, z4⟩ := zbg HBX.out.2.1.out
 refine if s0 : x1 = 0 then ?p19 else ?q19
 case' p19 =>
  subst x1
  refine if c0 : x2 = 0 then ?p8 else ?q8
  case' p8 =>
   subst x2
   refine if n3 : x3 < n then ?p7 else ?q7
   case' p7 =>
    have n3b : decide (x3 < n) = true := decide_eq_true n3
    refine if o3 : oo = 3 then ?p6 else ?q6
    case' p6 =>
     subst oo
     obtain ⟨⟨r1, r2⟩, hu⟩ := HU.out (by decide)
     replace r1 := eq_true r1
     replace r2 := eq_true r2
     have HU1 := Aside0.mk (fun W (hW : Below w.heap.size w W) => (hW.cell (World.block_lt_of_cell? w _ hu)).trans hu)
     clear hu
     refine if ns : os = 0 then ?p2 else ?q2
     case' p2 =>
      have nsb : (os == 0) = true := beq_iff_eq.mpr ns
      have nsc : (os != 0) = false := bne_eq_false_iff_eq.mpr ns
      have HNS := Aside0.mk ns
      clear ns
      obtain ⟨c3, c4, hw⟩ := HWT.out (by omega)
      have HWW := Aside0.mk hw
      clear hw
      refine if e1 : tv = true then ?p1 else ?q1
      case' p1 =>
       subst e1
       have hv : nE 8 0 0 x3 n ob (decide (3 = 3) || decide (3 = 7)) os true em = 0 := by simp [nE, show x3 < n by omega, HNS.out]
      case' q1 =>
       have e1 := Bool.eq_false_iff.mpr e1
       subst e1
       have hv : nE 8 0 0 x3 n ob (decide (3 = 3) || decide (3 = 7)) os false em = 6 := by simp [nE, show x3 < n by omega, HNS.out]
     case' q2 =>
      have nsb : (os == 0) = false := beq_eq_false_iff_ne.mpr ns
      have nsc : (os != 0) = true := bne_iff_ne.mpr ns
      have hv : nE 8 0 0 x3 n ob (decide (3 = 3) || decide (3 = 7)) os tv em = 16 := by simp [nE, show x3 < n by omega, ns]
    case' q6 =>
     have o3b : (oo == 3) = false := beq_eq_false_iff_ne.mpr o3
     have o3c : (oo != 3) = true := bne_iff_ne.mpr o3
     refine if o7 : oo = 7 then ?p5 else ?q5
     case' p5 =>
      subst oo
      obtain ⟨⟨r1, r2⟩, hu⟩ := HU.out (by decide)
      replace r1 := eq_true r1
      replace r2 := eq_true r2
      have HU1 := Aside0.mk (fun W (hW : Below w.heap.size w W) => (hW.cell (World.block_lt_of_cell? w _ hu)).trans hu)
      clear hu
      refine if ns : os = 0 then ?p4 else ?q4
      case' p4 =>
       have nsb : (os == 0) = true := beq_iff_eq.mpr ns
       have nsc : (os != 0) = false := bne_eq_false_iff_eq.mpr ns
       have HNS := Aside0.mk ns
       clear ns
       obtain ⟨c3, c4, hw⟩ := HWT.out (by omega)
       have HWW := Aside0.mk hw
       clear hw
       refine if e3 : tv = true then ?p3 else ?q3
       case' p3 =>
        subst e3
        have hv : nE 8 0 0 x3 n ob (decide (7 = 3) || decide (7 = 7)) os true em = 0 := by simp [nE, show x3 < n by omega, o3, HNS.out]
       case' q3 =>
        have e3 := Bool.eq_false_iff.mpr e3
        subst e3
        have hv : nE 8 0 0 x3 n ob (decide (7 = 3) || decide (7 = 7)) os false em = 6 := by simp [nE, show x3 < n by omega, o3, HNS.out]
      case' q4 =>
       have nsb : (os == 0) = false := beq_eq_false_iff_ne.mpr ns
       have nsc : (os != 0) = true := bne_iff_ne.mpr ns
       have hv : nE 8 0 0 x3 n ob (decide (7 = 3) || decide (7 = 7)) os tv em = 16 := by simp [nE, show x3 < n by omega, o3, ns]
     case' q5 =>
      have o7b : (oo == 7) = false := beq_eq_false_iff_ne.mpr o7
      have o7c : (oo != 7) = true := bne_iff_ne.mpr o7
      have hv : nE 8 0 0 x3 n ob (decide (oo = 3) || decide (oo = 7)) os tv em = 16 := by simp [nE, show x3 < n by omega, o3, o7]
   case' q7 =>
    have n3b : decide (x3 < n) = false := decide_eq_false n3
    have hv : nE 8 0 0 x3 n ob (decide (oo = 3) || decide (oo = 7)) os tv em = 16 := by simp [nE, show ¬ x3 < n by omega]
  case' q8 =>
   have c0b : (x2 == 0) = false := beq_eq_false_iff_ne.mpr c0
   have c0c : (x2 != 0) = true := bne_iff_ne.mpr c0
   have hv : nE 8 0 x2 x3 n ob (decide (oo = 3) || decide (oo = 7)) os tv em = 16 := by simp [nE, c0]
 case' q19 =>
  have s0b : (x1 == 0) = false := beq_eq_false_iff_ne.mpr s0
  have s0c : (x1 != 0) = true := bne_iff_ne.mpr s0
  refine if n1 : x1 ≥ n then ?p18 else ?q18
  case' p18 =>
   have n1b : decide (x1 ≥ n) = true := decide_eq_true n1
   have hv : nE 8 x1 x2 x3 n ob (decide (oo = 3) || decide (oo = 7)) os tv em = 16 := by simp [nE, s0, show n ≤ x1 by omega]
  case' q18 =>
   have n1b : decide (x1 ≥ n) = false := decide_eq_false n1
   refine if e9 : ob = true then ?p9 else ?q9
   case' p9 =>
    subst e9
    refine if c0 : x2 = 0 then ?p17 else ?q17
    case' p17 =>
     subst x2
     refine if n3 : x3 < n then ?p16 else ?q16
     case' p16 =>
      have n3b : decide (x3 < n) = true := decide_eq_true n3
      refine if o3 : oo = 3 then ?p15 else ?q15
      case' p15 =>
       subst oo
       obtain ⟨⟨r1, r2⟩, hu⟩ := HU.out (by decide)
       replace r1 := eq_true r1
       replace r2 := eq_true r2
       have HU1 := Aside0.mk (fun W (hW : Below w.heap.size w W) => (hW.cell (World.block_lt_of_cell? w _ hu)).trans hu)
       clear hu
       refine if ns : os = x1 then ?p11 else ?q11
       case' p11 =>
        have nsb : (os == x1) = true := beq_iff_eq.mpr ns
        have nsc : (os != x1) = false := bne_eq_false_iff_eq.mpr ns
        have HNS := Aside0.mk ns
        clear ns
        obtain ⟨c3, c4, hw⟩ := HWT.out (by omega)
        have HWW := Aside0.mk hw
        clear hw
        refine if e10 : tv = true then ?p10 else ?q10
        case' p10 =>
         subst e10
         have hv : nE 8 x1 0 x3 n true (decide (3 = 3) || decide (3 = 7)) os true em = 0 := by simp [nE, s0, show ¬ n ≤ x1 by omega, show x3 < n by omega, HNS.out]
        case' q10 =>
         have e10 := Bool.eq_false_iff.mpr e10
         subst e10
         have hv : nE 8 x1 0 x3 n true (decide (3 = 3) || decide (3 = 7)) os false em = 6 := by simp [nE, s0, show ¬ n ≤ x1 by omega, show x3 < n by omega, HNS.out]
       case' q11 =>
        have nsb : (os == x1) = false := beq_eq_false_iff_ne.mpr ns
        have nsc : (os != x1) = true := bne_iff_ne.mpr ns
        have hv : nE 8 x1 0 x3 n true (decide (3 = 3) || decide (3 = 7)) os tv em = 16 := by simp [nE, s0, show ¬ n ≤ x1 by omega, show x3 < n by omega, ns]
      case' q15 =>
       have o3b : (oo == 3) = false := beq_eq_false_iff_ne.mpr o3
       have o3c : (oo != 3) = true := bne_iff_ne.mpr o3
       refine if o7 : oo = 7 then ?p14 else ?q14
       case' p14 =>
        subst oo
        obtain ⟨⟨r1, r2⟩, hu⟩ := HU.out (by decide)
        replace r1 := eq_true r1
        replace r2 := eq_true r2
        have HU1 := Aside0.mk (fun W (hW : Below w.heap.size w W) => (hW.cell (World.block_lt_of_cell? w _ hu)).trans hu)
        clear hu
        refine if ns : os = x1 then ?p13 else ?q13
        case' p13 =>
         have nsb : (os == x1) = true := beq_iff_eq.mpr ns
         have nsc : (os != x1) = false := bne_eq_false_iff_eq.mpr ns
         have HNS := Aside0.mk ns
         clear ns
         obtain ⟨c3, c4, hw⟩ := HWT.out (by omega)
         have HWW := Aside0.mk hw
         clear hw
         refine if e12 : tv = true then ?p12 else ?q12
         case' p12 =>
          subst e12
          have hv : nE 8 x1 0 x3 n true (decide (7 = 3) || decide (7 = 7)) os true em = 0 := by simp [nE, s0, show ¬ n ≤ x1 by omega, show x3 < n by omega, o3, HNS.out]
         case' q12 =>
          have e12 := Bool.eq_false_iff.mpr e12
          subst e12
          have hv : nE 8 x1 0 x3 n true (decide (7 = 3) || decide (7 = 7)) os false em = 6 := by simp [nE, s0, show ¬ n ≤ x1 by omega, show x3 < n by omega, o3, HNS.out]
        case' q13 =>
         have nsb : (os == x1) = false := beq_eq_false_iff_ne.mpr ns
         have nsc : (os != x1) = true := bne_iff_ne.mpr ns
         have hv : nE 8 x1 0 x3 n true (decide (7 = 3) || decide (7 = 7)) os tv em = 16 := by simp [nE, s0, show ¬ n ≤ x1 by omega, show x3 < n by omega, o3, ns]
       case' q14 =>
        have o7b : (oo == 7) = false := beq_eq_false_iff_ne.mpr o7
        have o7c : (oo != 7) = true := bne_iff_ne.mpr o7
        have hv : nE 8 x1 0 x3 n true (decide (oo = 3) || decide (oo = 7)) os tv em = 16 := by simp [nE, s0, show ¬ n ≤ x1 by omega, show x3 < n by omega, o3, o7]
     case' q16 =>
      have n3b : decide (x3 < n) = false := decide_eq_false n3
      have hv : nE 8 x1 0 x3 n true (decide (oo = 3) || decide (oo = 7)) os tv em = 16 := by simp [nE, s0, show ¬ n ≤ x1 by omega, show ¬ x3 < n by omega]
    case' q17 =>
     have c0b : (x2 == 0) = false := beq_eq_false_iff_ne.mpr c0
     have c0c : (x2 != 0) = true := bne_iff_ne.mpr c0
     have hv : nE 8 x1 x2 x3 n true (decide (oo = 3) || decide (oo = 7)) os tv em = 16 := by simp [nE, s0, show ¬ n ≤ x1 by omega, c0]
   case' q9 =>
    have e9 := Bool.eq_false_iff.mpr e9
    subst e9
    have hv : nE 8 x1 x2 x3 n false (decide (oo = 3) || decide (oo = 7)) os tv em = 16 := by simp [nE, s0, show ¬ n ≤ x1 by omega]
 all_goals
  go_enter Tryz.func28, Tryz.ntmps28
  go_wp2_with (first | (go_at_call 31; (with_reducible refine (zaq.calls a0 _ _ l1 _ _ l2 _ _ _ (Kd.C_below HC1.out (by repeat (first | exact HLOW.out | apply pw_below_drewN | apply below_alloc | apply below_drew1))) HL1.out (Kd.C_below HC2.out (by repeat (first | exact HLOW.out | apply pw_below_drewN | apply below_alloc | apply below_drew1))) HL2.out HOB.out).mono ?_); rintro e w9 ⟨rfl, hb9⟩; have n0 := Bx.below (by repeat (first | exact HBX.out | apply Bx.drewN | apply Bx.drew)) hb9; clear HBX HLOW; have HBX := Aside0.mk n0; have HLOW := Aside0.mk n0.low; obtain ⟨g5, g6, g7⟩ := zbh n0.1.out; obtain ⟨q0, q1, q2, q3, q4⟩ := zbg n0.2.1.out; clear n0 hb9) | (go_at_call 48; (with_reducible refine (zak.calls a0 _ _ l1 _ _ l2 _ _ _ (Kd.C_below HC1.out (by repeat (first | exact HLOW.out | apply pw_below_drewN | apply below_alloc | apply below_drew1))) HL1.out (Kd.C_below HC2.out (by repeat (first | exact HLOW.out | apply pw_below_drewN | apply below_alloc | apply below_drew1))) HL2.out HKD.out).mono ?_); rintro e w9 ⟨rfl, hb9⟩; have n0 := Bx.below (by repeat (first | exact HBX.out | apply Bx.drewN | apply Bx.drew)) hb9; clear HBX HLOW; have HBX := Aside0.mk n0; have HLOW := Aside0.mk n0.low; obtain ⟨g5, g6, g7⟩ := zbh n0.1.out; obtain ⟨q0, q1, q2, q3, q4⟩ := zbg n0.2.1.out; clear n0 hb9; try have u1 := HU1.out _ HLOW.out) | (go_at_call 49; (with_reducible refine (zag.calls _ a0 _ _ l1 _ _ l2 _ _ _ _ _ (Kd.C_below HC1.out (by repeat (first | exact HLOW.out | apply pw_below_drewN | apply below_alloc | apply below_drew1))) HL1.out (Kd.C_below HC2.out (by repeat (first | exact HLOW.out | apply pw_below_drewN | apply below_alloc | apply below_drew1))) HL2.out HWW.out).mono ?_); rintro e w8 ⟨rfl, hb8⟩; have n0 := Aside0.mk (below_step (by repeat (first | exact HLOW.out | apply pw_below_drewN | apply below_alloc | apply below_drew1)) hb8); clear HLOW; have HLOW := n0; clear n0 hb8))
  repeat (go_quiet (fail); try go_wp2_with (first | (go_at_call 31; (with_reducible refine (zaq.calls a0 _ _ l1 _ _ l2 _ _ _ (Kd.C_below HC1.out (by repeat (first | exact HLOW.out | apply pw_below_drewN | apply below_alloc | apply below_drew1))) HL1.out (Kd.C_below HC2.out (by repeat (first | exact HLOW.out | apply pw_below_drewN | apply below_alloc | apply below_drew1))) HL2.out HOB.out).mono ?_); rintro e w9 ⟨rfl, hb9⟩; have n0 := Bx.below (by repeat (first | exact HBX.out | apply Bx.drewN | apply Bx.drew)) hb9; clear HBX HLOW; have HBX := Aside0.mk n0; have HLOW := Aside0.mk n0.low; obtain ⟨g5, g6, g7⟩ := zbh n0.1.out; obtain ⟨q0, q1, q2, q3, q4⟩ := zbg n0.2.1.out; clear n0 hb9) | (go_at_call 48; (with_reducible refine (zak.calls a0 _ _ l1 _ _ l2 _ _ _ (Kd.C_below HC1.out (by repeat (first | exact HLOW.out | apply pw_below_drewN | apply below_alloc | apply below_drew1))) HL1.out (Kd.C_below HC2.out (by repeat (first | exact HLOW.out | apply pw_below_drewN | apply below_alloc | apply below_drew1))) HL2.out HKD.out).mono ?_); rintro e w9 ⟨rfl, hb9⟩; have n0 := Bx.below (by repeat (first | exact HBX.out | apply Bx.drewN | apply Bx.drew)) hb9; clear HBX HLOW; have HBX := Aside0.mk n0; have HLOW := Aside0.mk n0.low; obtain ⟨g5, g6, g7⟩ := zbh n0.1.out; obtain ⟨q0, q1, q2, q3, q4⟩ := zbg n0.2.1.out; clear n0 hb9; try have u1 := HU1.out _ HLOW.out) | (go_at_call 49; (with_reducible refine (zag.calls _ a0 _ _ l1 _ _ l2 _ _ _ _ _ (Kd.C_below HC1.out (by repeat (first | exact HLOW.out | apply pw_below_drewN | apply below_alloc | apply below_drew1))) HL1.out (Kd.C_below HC2.out (by repeat (first | exact HLOW.out | apply pw_below_drewN | apply below_alloc | apply below_drew1))) HL2.out HWW.out).mono ?_); rintro e w8 ⟨rfl, hb8⟩; have n0 := Aside0.mk (below_step (by repeat (first | exact HLOW.out | apply pw_below_drewN | apply below_alloc | apply below_drew1)) hb8); clear HLOW; have HLOW := n0; clear n0 hb8)))
  go_ret
  exact ⟨by first | rfl | exact congrArg (fun z => Ending.returned (Value.int .i64 z)) hv.symm, by repeat (first | exact HLOW.out | apply pw_below_drewN | apply below_alloc | apply below_drew1)⟩
end Go.Proofs.YtcaegaljhogbjaaGreatDoor.Gr
