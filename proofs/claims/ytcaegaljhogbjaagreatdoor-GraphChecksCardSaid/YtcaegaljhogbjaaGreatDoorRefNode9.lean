/- The reference's node, walked by hand (written by wip/tools/gen_rn.py). -/
import Derived.Test.YtcaegaljhogbjaaGreatDoorYx1
import Derived.Test.YtcaegaljhogbjaaGreatDoorGraphSpec
import Derived.BigQuiet
import Derived.Test.YtcaegaljhogbjaaGreatDoorNodeE
set_option linter.unusedVariables false
set_option linter.unusedSimpArgs false
namespace Go.Proofs.YtcaegaljhogbjaaGreatDoor.Gr
open Go.RowKit Go.Lib Go.Sort Go.Proofs.YtcaegaljhogbjaaGreatDoorW.PrintWords Go.Proofs.YtcaegaljhogbjaaGreatDoorW.PrintLast Go.Proofs.YtcaegaljhogbjaaGreatDoorW.PrintMore Go.Proofs.YtcaegaljhogbjaaGreatDoor.Y Go.Proofs.YtcaegaljhogbjaaGreatDoor.Gd

set_option maxHeartbeats 32000000 in
set_option maxRecDepth 100000 in
theorem rnode_9 (a0 : ByteArray) (A1 : Option Addr) (c1 : Nat) (l1 : List S38) (A2 : Option Addr) (c2 : Nat) (l2 : List S40) (n : Int) (w : World)
  (hl : l1.length ≤ 1000000) (hC1 : Kd.C k38 w A1 l1.length l1) (hc1 : l1.length ≤ c1) (hC2 : Kd.C k40 w A2 l2.length l2) (hc2 : l2.length ≤ c2) (hn : inL l1 n) (ha : (nd l1 n).f4.size ≤ 1000) (hg : (nd l1 n).f0 = 9) :
  Calls Tryz.prog 28 #[.agg #[.string a0, .slice A1 l1.length c1, .slice A2 l2.length c2], .int .i64 n] w fun e w' => e = .returned (.int .i64 (nodeE l1 n (nd l1 n))) ∧ Below w.heap.size w w' := by
 obtain ⟨hwn, p, q⟩ := in_w hl hn
 clear hwn
 have hw := rtime_eq (s := a0) (l2 := l2) hl hn
 have e1 := ropens_eq (s := a0) (l2 := l2) hl (nd l1 n).f1
 rw [← at_kind] at e1
 have e2 := kind_eq (s := a0) (l2 := l2) hl (nd l1 n).f3
 rw [← at_kind] at e2
 have f3 : (atS l1 (nd l1 n).f3).f0 ≠ 0 → 0 ≤ wrap64 ((nd l1 n).f3 - 1) ∧ wrap64 ((nd l1 n).f3 - 1) < (l1.length : Int) ∧ (atS l1 (nd l1 n).f3).f1 = (zba l1 (wrap64 ((nd l1 n).f3 - 1))).f1 := fun h => by
  rw [at_kind] at h
  have hi := kind_in h
  obtain ⟨_, a, b⟩ := in_w hl hi
  exact ⟨a, b, by rw [at_nd hi]; rfl⟩
 rw [nodeE_at, show decide ((atS l1 (nd l1 n).f3).f0 = 3 ∨ (atS l1 (nd l1 n).f3).f0 = 7) = (decide ((atS l1 (nd l1 n).f3).f0 = 3) || decide ((atS l1 (nd l1 n).f3).f0 = 7)) from Bool.decide_or _ _]
 unfold nd at *
 have hjw : (IntKind.i64.wrap (n - 1)) = wrap64 (n - 1) := i64_w _
 generalize wrap64 (n - 1) = j at *
 obtain ⟨ad, e, hx0, hx1, hx2, hx3, hx4⟩ := zbc hC1 j p q
 subst e
 have HC1 := Aside0.mk hC1
 have HC2 := Aside0.mk hC2
 have HL1 := Aside0.mk hc1
 have HL2 := Aside0.mk hc2
 have hbl := World.block_lt_of_cell? w _ hx0
 have hne : (ad.add (j.toNat * 5)).block ≠ w.heap.size := Nat.ne_of_lt hbl
 have p' := eq_true p
 have q' := eq_true q
 generalize zba l1 j = x at *
 obtain ⟨x0, x1, x2, x3, x4⟩ := x
 dsimp only at *
 subst x0
 have HWT := Aside0.mk (fun h => hw h ha 5003 (Nat.le_refl _))
 obtain ⟨tv, htv⟩ : ∃ b, timeV ⟨9, x1, x2, x3, x4⟩ = b := ⟨_, rfl⟩
 obtain ⟨em, hem⟩ : ∃ b, (x4.toList == ([] : List UInt8)) = b := ⟨_, rfl⟩
 have hem' : (x4.toList != ([] : List UInt8)) = !em := by rw [← hem]; rfl
 rw [htv] at HWT ⊢
 rw [hem]
 generalize (atS l1 x1).f0 = sk at *
 generalize (atS l1 x3).f0 = oo at *
 generalize (atS l1 x3).f1 = os at *
 have hjo : (IntKind.i64.wrap (x3 - 1)) = wrap64 (x3 - 1) := i64_w _
 generalize wrap64 (x3 - 1) = jo at *
 generalize opn sk = ob at *
 have HOB := Aside0.mk e1
 have HKD := Aside0.mk e2
 have HU := Aside0.mk (fun h => by
  obtain ⟨a, b, c⟩ := f3 h
  obtain ⟨ad', e, _, u1, _⟩ := zbc hC1 jo a b
  obtain rfl := Option.some.inj e
  rw [← c] at u1
  exact (show (0 ≤ jo ∧ jo < (l1.length : Int)) ∧ w.cell? ⟨(ad.add (jo.toNat * 5)).block, (ad.add (jo.toNat * 5)).off + 1, none⟩ = some (.int .i64 os) from ⟨⟨a, b⟩, u1⟩))
 clear hC1 hC2 hc1 hc2 e1 e2 f3 hw hl hn ha htv
 have HBX := Aside0.mk (Bx.new w #[.string a0, .slice (some ad) l1.length c1, .slice A2 l2.length c2] 25 #[.int .i64 9, .int .i64 x1, .int .i64 x2, .int .i64 x3, .string x4] 38)
 have HLOW := Aside0.mk HBX.out.low
 obtain ⟨g0, g1, g2⟩ := zbh HBX.out.1.out
 obtain ⟨z0, z1, z2, z3, z4⟩ := zbg HBX.out.2.1.out
 refine if s0 : x1 = 0 then ?p38 else ?q38
 case' p38 =>
  subst x1
  refine if c0 : x2 = 0 then ?p27 else ?q27
  case' p27 =>
   subst x2
   refine if n3 : x3 < n then ?p26 else ?q26
   case' p26 =>
    have n3b : decide (x3 < n) = true := decide_eq_true n3
    refine if o3 : oo = 3 then ?p25 else ?q25
    case' p25 =>
     subst oo
     obtain ⟨⟨r1, r2⟩, hu⟩ := HU.out (by decide)
     replace r1 := eq_true r1
     replace r2 := eq_true r2
     have HU1 := Aside0.mk (fun W (hW : Below w.heap.size w W) => (hW.cell (World.block_lt_of_cell? w _ hu)).trans hu)
     clear hu
     refine if ns : os = 0 then ?p21 else ?q21
     case' p21 =>
      have nsb : (os == 0) = true := beq_iff_eq.mpr ns
      have nsc : (os != 0) = false := bne_eq_false_iff_eq.mpr ns
      have HNS := Aside0.mk ns
      clear ns
      obtain ⟨c3, c4, hw⟩ := HWT.out (by omega)
      have HWW := Aside0.mk hw
      clear hw
      refine if e20 : tv = true then ?p20 else ?q20
      case' p20 =>
       subst e20
       have hv : nE 9 0 0 x3 n ob (decide (3 = 3) || decide (3 = 7)) os true em = 0 := by simp [nE, show x3 < n by omega, HNS.out]
      case' q20 =>
       have e20 := Bool.eq_false_iff.mpr e20
       subst e20
       have hv : nE 9 0 0 x3 n ob (decide (3 = 3) || decide (3 = 7)) os false em = 6 := by simp [nE, show x3 < n by omega, HNS.out]
     case' q21 =>
      have nsb : (os == 0) = false := beq_eq_false_iff_ne.mpr ns
      have nsc : (os != 0) = true := bne_iff_ne.mpr ns
      have hv : nE 9 0 0 x3 n ob (decide (3 = 3) || decide (3 = 7)) os tv em = 16 := by simp [nE, show x3 < n by omega, ns]
    case' q25 =>
     have o3b : (oo == 3) = false := beq_eq_false_iff_ne.mpr o3
     have o3c : (oo != 3) = true := bne_iff_ne.mpr o3
     refine if o7 : oo = 7 then ?p24 else ?q24
     case' p24 =>
      subst oo
      obtain ⟨⟨r1, r2⟩, hu⟩ := HU.out (by decide)
      replace r1 := eq_true r1
      replace r2 := eq_true r2
      have HU1 := Aside0.mk (fun W (hW : Below w.heap.size w W) => (hW.cell (World.block_lt_of_cell? w _ hu)).trans hu)
      clear hu
      refine if ns : os = 0 then ?p23 else ?q23
      case' p23 =>
       have nsb : (os == 0) = true := beq_iff_eq.mpr ns
       have nsc : (os != 0) = false := bne_eq_false_iff_eq.mpr ns
       have HNS := Aside0.mk ns
       clear ns
       obtain ⟨c3, c4, hw⟩ := HWT.out (by omega)
       have HWW := Aside0.mk hw
       clear hw
       refine if e22 : tv = true then ?p22 else ?q22
       case' p22 =>
        subst e22
        have hv : nE 9 0 0 x3 n ob (decide (7 = 3) || decide (7 = 7)) os true em = 0 := by simp [nE, show x3 < n by omega, o3, HNS.out]
       case' q22 =>
        have e22 := Bool.eq_false_iff.mpr e22
        subst e22
        have hv : nE 9 0 0 x3 n ob (decide (7 = 3) || decide (7 = 7)) os false em = 6 := by simp [nE, show x3 < n by omega, o3, HNS.out]
      case' q23 =>
       have nsb : (os == 0) = false := beq_eq_false_iff_ne.mpr ns
       have nsc : (os != 0) = true := bne_iff_ne.mpr ns
       have hv : nE 9 0 0 x3 n ob (decide (7 = 3) || decide (7 = 7)) os tv em = 16 := by simp [nE, show x3 < n by omega, o3, ns]
     case' q24 =>
      have o7b : (oo == 7) = false := beq_eq_false_iff_ne.mpr o7
      have o7c : (oo != 7) = true := bne_iff_ne.mpr o7
      have hv : nE 9 0 0 x3 n ob (decide (oo = 3) || decide (oo = 7)) os tv em = 16 := by simp [nE, show x3 < n by omega, o3, o7]
   case' q26 =>
    have n3b : decide (x3 < n) = false := decide_eq_false n3
    have hv : nE 9 0 0 x3 n ob (decide (oo = 3) || decide (oo = 7)) os tv em = 16 := by simp [nE, show ¬ x3 < n by omega]
  case' q27 =>
   have c0b : (x2 == 0) = false := beq_eq_false_iff_ne.mpr c0
   have c0c : (x2 != 0) = true := bne_iff_ne.mpr c0
   have hv : nE 9 0 x2 x3 n ob (decide (oo = 3) || decide (oo = 7)) os tv em = 16 := by simp [nE, c0]
 case' q38 =>
  have s0b : (x1 == 0) = false := beq_eq_false_iff_ne.mpr s0
  have s0c : (x1 != 0) = true := bne_iff_ne.mpr s0
  refine if n1 : x1 ≥ n then ?p37 else ?q37
  case' p37 =>
   have n1b : decide (x1 ≥ n) = true := decide_eq_true n1
   have hv : nE 9 x1 x2 x3 n ob (decide (oo = 3) || decide (oo = 7)) os tv em = 16 := by simp [nE, s0, show n ≤ x1 by omega]
  case' q37 =>
   have n1b : decide (x1 ≥ n) = false := decide_eq_false n1
   refine if e28 : ob = true then ?p28 else ?q28
   case' p28 =>
    subst e28
    refine if c0 : x2 = 0 then ?p36 else ?q36
    case' p36 =>
     subst x2
     refine if n3 : x3 < n then ?p35 else ?q35
     case' p35 =>
      have n3b : decide (x3 < n) = true := decide_eq_true n3
      refine if o3 : oo = 3 then ?p34 else ?q34
      case' p34 =>
       subst oo
       obtain ⟨⟨r1, r2⟩, hu⟩ := HU.out (by decide)
       replace r1 := eq_true r1
       replace r2 := eq_true r2
       have HU1 := Aside0.mk (fun W (hW : Below w.heap.size w W) => (hW.cell (World.block_lt_of_cell? w _ hu)).trans hu)
       clear hu
       refine if ns : os = x1 then ?p30 else ?q30
       case' p30 =>
        have nsb : (os == x1) = true := beq_iff_eq.mpr ns
        have nsc : (os != x1) = false := bne_eq_false_iff_eq.mpr ns
        have HNS := Aside0.mk ns
        clear ns
        obtain ⟨c3, c4, hw⟩ := HWT.out (by omega)
        have HWW := Aside0.mk hw
        clear hw
        refine if e29 : tv = true then ?p29 else ?q29
        case' p29 =>
         subst e29
         have hv : nE 9 x1 0 x3 n true (decide (3 = 3) || decide (3 = 7)) os true em = 0 := by simp [nE, s0, show ¬ n ≤ x1 by omega, show x3 < n by omega, HNS.out]
        case' q29 =>
         have e29 := Bool.eq_false_iff.mpr e29
         subst e29
         have hv : nE 9 x1 0 x3 n true (decide (3 = 3) || decide (3 = 7)) os false em = 6 := by simp [nE, s0, show ¬ n ≤ x1 by omega, show x3 < n by omega, HNS.out]
       case' q30 =>
        have nsb : (os == x1) = false := beq_eq_false_iff_ne.mpr ns
        have nsc : (os != x1) = true := bne_iff_ne.mpr ns
        have hv : nE 9 x1 0 x3 n true (decide (3 = 3) || decide (3 = 7)) os tv em = 16 := by simp [nE, s0, show ¬ n ≤ x1 by omega, show x3 < n by omega, ns]
      case' q34 =>
       have o3b : (oo == 3) = false := beq_eq_false_iff_ne.mpr o3
       have o3c : (oo != 3) = true := bne_iff_ne.mpr o3
       refine if o7 : oo = 7 then ?p33 else ?q33
       case' p33 =>
        subst oo
        obtain ⟨⟨r1, r2⟩, hu⟩ := HU.out (by decide)
        replace r1 := eq_true r1
        replace r2 := eq_true r2
        have HU1 := Aside0.mk (fun W (hW : Below w.heap.size w W) => (hW.cell (World.block_lt_of_cell? w _ hu)).trans hu)
        clear hu
        refine if ns : os = x1 then ?p32 else ?q32
        case' p32 =>
         have nsb : (os == x1) = true := beq_iff_eq.mpr ns
         have nsc : (os != x1) = false := bne_eq_false_iff_eq.mpr ns
         have HNS := Aside0.mk ns
         clear ns
         obtain ⟨c3, c4, hw⟩ := HWT.out (by omega)
         have HWW := Aside0.mk hw
         clear hw
         refine if e31 : tv = true then ?p31 else ?q31
         case' p31 =>
          subst e31
          have hv : nE 9 x1 0 x3 n true (decide (7 = 3) || decide (7 = 7)) os true em = 0 := by simp [nE, s0, show ¬ n ≤ x1 by omega, show x3 < n by omega, o3, HNS.out]
         case' q31 =>
          have e31 := Bool.eq_false_iff.mpr e31
          subst e31
          have hv : nE 9 x1 0 x3 n true (decide (7 = 3) || decide (7 = 7)) os false em = 6 := by simp [nE, s0, show ¬ n ≤ x1 by omega, show x3 < n by omega, o3, HNS.out]
        case' q32 =>
         have nsb : (os == x1) = false := beq_eq_false_iff_ne.mpr ns
         have nsc : (os != x1) = true := bne_iff_ne.mpr ns
         have hv : nE 9 x1 0 x3 n true (decide (7 = 3) || decide (7 = 7)) os tv em = 16 := by simp [nE, s0, show ¬ n ≤ x1 by omega, show x3 < n by omega, o3, ns]
       case' q33 =>
        have o7b : (oo == 7) = false := beq_eq_false_iff_ne.mpr o7
        have o7c : (oo != 7) = true := bne_iff_ne.mpr o7
        have hv : nE 9 x1 0 x3 n true (decide (oo = 3) || decide (oo = 7)) os tv em = 16 := by simp [nE, s0, show ¬ n ≤ x1 by omega, show x3 < n by omega, o3, o7]
     case' q35 =>
      have n3b : decide (x3 < n) = false := decide_eq_false n3
      have hv : nE 9 x1 0 x3 n true (decide (oo = 3) || decide (oo = 7)) os tv em = 16 := by simp [nE, s0, show ¬ n ≤ x1 by omega, show ¬ x3 < n by omega]
    case' q36 =>
     have c0b : (x2 == 0) = false := beq_eq_false_iff_ne.mpr c0
     have c0c : (x2 != 0) = true := bne_iff_ne.mpr c0
     have hv : nE 9 x1 x2 x3 n true (decide (oo = 3) || decide (oo = 7)) os tv em = 16 := by simp [nE, s0, show ¬ n ≤ x1 by omega, c0]
   case' q28 =>
    have e28 := Bool.eq_false_iff.mpr e28
    subst e28
    have hv : nE 9 x1 x2 x3 n false (decide (oo = 3) || decide (oo = 7)) os tv em = 16 := by simp [nE, s0, show ¬ n ≤ x1 by omega]
 all_goals
  go_enter Tryz.func28, Tryz.ntmps28
  go_wp2_with (first | (go_at_call 31; (with_reducible refine (zaq.calls a0 _ _ l1 _ _ l2 _ _ _ (Kd.C_below HC1.out (by repeat (first | exact HLOW.out | apply pw_below_drewN | apply below_alloc | apply below_drew1))) HL1.out (Kd.C_below HC2.out (by repeat (first | exact HLOW.out | apply pw_below_drewN | apply below_alloc | apply below_drew1))) HL2.out HOB.out).mono ?_); rintro e w9 ⟨rfl, hb9⟩; have n0 := Bx.below (by repeat (first | exact HBX.out | apply Bx.drewN | apply Bx.drew)) hb9; clear HBX HLOW; have HBX := Aside0.mk n0; have HLOW := Aside0.mk n0.low; obtain ⟨g5, g6, g7⟩ := zbh n0.1.out; obtain ⟨q0, q1, q2, q3, q4⟩ := zbg n0.2.1.out; clear n0 hb9) | (go_at_call 48; (with_reducible refine (zak.calls a0 _ _ l1 _ _ l2 _ _ _ (Kd.C_below HC1.out (by repeat (first | exact HLOW.out | apply pw_below_drewN | apply below_alloc | apply below_drew1))) HL1.out (Kd.C_below HC2.out (by repeat (first | exact HLOW.out | apply pw_below_drewN | apply below_alloc | apply below_drew1))) HL2.out HKD.out).mono ?_); rintro e w9 ⟨rfl, hb9⟩; have n0 := Bx.below (by repeat (first | exact HBX.out | apply Bx.drewN | apply Bx.drew)) hb9; clear HBX HLOW; have HBX := Aside0.mk n0; have HLOW := Aside0.mk n0.low; obtain ⟨g5, g6, g7⟩ := zbh n0.1.out; obtain ⟨q0, q1, q2, q3, q4⟩ := zbg n0.2.1.out; clear n0 hb9; try have u1 := HU1.out _ HLOW.out) | (go_at_call 49; (with_reducible refine (zag.calls _ a0 _ _ l1 _ _ l2 _ _ _ _ _ (Kd.C_below HC1.out (by repeat (first | exact HLOW.out | apply pw_below_drewN | apply below_alloc | apply below_drew1))) HL1.out (Kd.C_below HC2.out (by repeat (first | exact HLOW.out | apply pw_below_drewN | apply below_alloc | apply below_drew1))) HL2.out HWW.out).mono ?_); rintro e w8 ⟨rfl, hb8⟩; have n0 := Aside0.mk (below_step (by repeat (first | exact HLOW.out | apply pw_below_drewN | apply below_alloc | apply below_drew1)) hb8); clear HLOW; have HLOW := n0; clear n0 hb8))
  repeat (go_quiet (fail); try go_wp2_with (first | (go_at_call 31; (with_reducible refine (zaq.calls a0 _ _ l1 _ _ l2 _ _ _ (Kd.C_below HC1.out (by repeat (first | exact HLOW.out | apply pw_below_drewN | apply below_alloc | apply below_drew1))) HL1.out (Kd.C_below HC2.out (by repeat (first | exact HLOW.out | apply pw_below_drewN | apply below_alloc | apply below_drew1))) HL2.out HOB.out).mono ?_); rintro e w9 ⟨rfl, hb9⟩; have n0 := Bx.below (by repeat (first | exact HBX.out | apply Bx.drewN | apply Bx.drew)) hb9; clear HBX HLOW; have HBX := Aside0.mk n0; have HLOW := Aside0.mk n0.low; obtain ⟨g5, g6, g7⟩ := zbh n0.1.out; obtain ⟨q0, q1, q2, q3, q4⟩ := zbg n0.2.1.out; clear n0 hb9) | (go_at_call 48; (with_reducible refine (zak.calls a0 _ _ l1 _ _ l2 _ _ _ (Kd.C_below HC1.out (by repeat (first | exact HLOW.out | apply pw_below_drewN | apply below_alloc | apply below_drew1))) HL1.out (Kd.C_below HC2.out (by repeat (first | exact HLOW.out | apply pw_below_drewN | apply below_alloc | apply below_drew1))) HL2.out HKD.out).mono ?_); rintro e w9 ⟨rfl, hb9⟩; have n0 := Bx.below (by repeat (first | exact HBX.out | apply Bx.drewN | apply Bx.drew)) hb9; clear HBX HLOW; have HBX := Aside0.mk n0; have HLOW := Aside0.mk n0.low; obtain ⟨g5, g6, g7⟩ := zbh n0.1.out; obtain ⟨q0, q1, q2, q3, q4⟩ := zbg n0.2.1.out; clear n0 hb9; try have u1 := HU1.out _ HLOW.out) | (go_at_call 49; (with_reducible refine (zag.calls _ a0 _ _ l1 _ _ l2 _ _ _ _ _ (Kd.C_below HC1.out (by repeat (first | exact HLOW.out | apply pw_below_drewN | apply below_alloc | apply below_drew1))) HL1.out (Kd.C_below HC2.out (by repeat (first | exact HLOW.out | apply pw_below_drewN | apply below_alloc | apply below_drew1))) HL2.out HWW.out).mono ?_); rintro e w8 ⟨rfl, hb8⟩; have n0 := Aside0.mk (below_step (by repeat (first | exact HLOW.out | apply pw_below_drewN | apply below_alloc | apply below_drew1)) hb8); clear HLOW; have HLOW := n0; clear n0 hb8)))
  go_ret
  exact ⟨by first | rfl | exact congrArg (fun z => Ending.returned (Value.int .i64 z)) hv.symm, by repeat (first | exact HLOW.out | apply pw_below_drewN | apply below_alloc | apply below_drew1)⟩
end Go.Proofs.YtcaegaljhogbjaaGreatDoor.Gr
