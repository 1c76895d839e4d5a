/- The reference's node: its contract in the form that the kit's printer gives its own. -/
import Derived.Test.YtcaegaljhogbjaaGreatDoorYx1
import Derived.Test.YtcaegaljhogbjaaGreatDoorGraphSpec
import Derived.BigQuiet
import Derived.Test.YtcaegaljhogbjaaGreatDoorNodeE
import Derived.Test.YtcaegaljhogbjaaGreatDoorRefNode8
import Derived.Test.YtcaegaljhogbjaaGreatDoorRefNode9
set_option linter.unusedVariables false
set_option linter.unusedSimpArgs false
namespace Go.Proofs.YtcaegaljhogbjaaGreatDoor.Gr
open Go.RowKit Go.Lib Go.Sort Go.Proofs.YtcaegaljhogbjaaGreatDoorW.PrintWords Go.Proofs.YtcaegaljhogbjaaGreatDoorW.PrintLast Go.Proofs.YtcaegaljhogbjaaGreatDoorW.PrintMore Go.Proofs.YtcaegaljhogbjaaGreatDoor.Y Go.Proofs.YtcaegaljhogbjaaGreatDoor.Gd

set_option maxHeartbeats 32000000 in
set_option maxRecDepth 100000 in
theorem rnode_r (a0 : ByteArray) (A1 : Option Addr) (c1 : Nat) (l1 : List S38) (A2 : Option Addr) (c2 : Nat) (l2 : List S40) (n : Int) (w : World)
  (hl : l1.length ≤ 1000000) (hC1 : Kd.C k38 w A1 l1.length l1) (hc1 : l1.length ≤ c1) (hC2 : Kd.C k40 w A2 l2.length l2) (hc2 : l2.length ≤ c2) (hn : inL l1 n) (ha : (nd l1 n).f4.size ≤ 1000) (hg8 : (nd l1 n).f0 ≠ 8) (hg9 : (nd l1 n).f0 ≠ 9) :
  Calls Tryz.prog 28 #[.agg #[.string a0, .slice A1 l1.length c1, .slice A2 l2.length c2], .int .i64 n] w fun e w' => e = .returned (.int .i64 (nodeE l1 n (nd l1 n))) ∧ Below w.heap.size w w' := by
 obtain ⟨hwn, p, q⟩ := in_w hl hn
 clear hwn
 have hw := rtime_eq (s := a0) (l2 := l2) hl hn
 have e1 := ropens_eq (s := a0) (l2 := l2) hl (nd l1 n).f1
 rw [← at_kind] at e1
 have e2 := kind_eq (s := a0) (l2 := l2) hl (nd l1 n).f3
 rw [← at_kind] at e2
 have f3 : (atS l1 (nd l1 n).f3).f0 ≠ 0 → 0 ≤ wrap64 ((nd l1 n).f3 - 1) ∧ wrap64 ((nd l1 n).f3 - 1) < (l1.length : Int) ∧ (atS l1 (nd l1 n).f3).f1 = (zba l1 (wrap64 ((nd l1 n).f3 - 1))).f1 := fun h => by
  rw [at_kind] at h
  have hi := kind_in h
  obtain ⟨_, a, b⟩ := in_w hl hi
  exact ⟨a, b, by rw [at_nd hi]; rfl⟩
 rw [nodeE_at, show decide ((atS l1 (nd l1 n).f3).f0 = 3 ∨ (atS l1 (nd l1 n).f3).f0 = 7) = (decide ((atS l1 (nd l1 n).f3).f0 = 3) || decide ((atS l1 (nd l1 n).f3).f0 = 7)) from Bool.decide_or _ _]
 unfold nd at *
 have hjw : (IntKind.i64.wrap (n - 1)) = wrap64 (n - 1) := i64_w _
 generalize wrap64 (n - 1) = j at *
 obtain ⟨ad, e, hx0, hx1, hx2, hx3, hx4⟩ := zbc hC1 j p q
 subst e
 have HC1 := Aside0.mk hC1
 have HC2 := Aside0.mk hC2
 have HL1 := Aside0.mk hc1
 have HL2 := Aside0.mk hc2
 have hbl := World.block_lt_of_cell? w _ hx0
 have hne : (ad.add (j.toNat * 5)).block ≠ w.heap.size := Nat.ne_of_lt hbl
 have p' := eq_true p
 have q' := eq_true q
 generalize zba l1 j = x at *
 obtain ⟨x0, x1, x2, x3, x4⟩ := x
 dsimp only at *
 have HWT := Aside0.mk (fun h => hw h ha 5003 (Nat.le_refl _))
 obtain ⟨tv, htv⟩ : ∃ b, timeV ⟨x0, x1, x2, x3, x4⟩ = b := ⟨_, rfl⟩
 obtain ⟨em, hem⟩ : ∃ b, (x4.toList == ([] : List UInt8)) = b := ⟨_, rfl⟩
 have hem' : (x4.toList != ([] : List UInt8)) = !em := by rw [← hem]; rfl
 rw [htv] at HWT ⊢
 rw [hem]
 generalize (atS l1 x1).f0 = sk at *
 generalize (atS l1 x3).f0 = oo at *
 generalize (atS l1 x3).f1 = os at *
 have hjo : (IntKind.i64.wrap (x3 - 1)) = wrap64 (x3 - 1) := i64_w _
 generalize wrap64 (x3 - 1) = jo at *
 generalize opn sk = ob at *
 have HOB := Aside0.mk e1
 have HKD := Aside0.mk e2
 have HU := Aside0.mk (fun h => by
  obtain ⟨a, b, c⟩ := f3 h
  obtain ⟨ad', e, _, u1, _⟩ := zbc hC1 jo a b
  obtain rfl := Option.some.inj e
  rw [← c] at u1
  exact (show (0 ≤ jo ∧ jo < (l1.length : Int)) ∧ w.cell? ⟨(ad.add (jo.toNat * 5)).block, (ad.add (jo.toNat * 5)).off + 1, none⟩ = some (.int .i64 os) from ⟨⟨a, b⟩, u1⟩))
 clear hC1 hC2 hc1 hc2 e1 e2 f3 hw hl hn ha htv
 have HBX := Aside0.mk (Bx.new w #[.string a0, .slice (some ad) l1.length c1, .slice A2 l2.length c2] 25 #[.int .i64 x0, .int .i64 x1, .int .i64 x2, .int .i64 x3, .string x4] 38)
 have HLOW := Aside0.mk HBX.out.low
 obtain ⟨g0, g1, g2⟩ := zbh HBX.out.1.out
 obtain ⟨z0, z1, z2, z3, z4⟩ := zbg HBX.out.2.1.out
 have k8b : (x0 == 8) = false := beq_eq_false_iff_ne.mpr hg8
 have k9b : (x0 == 9) = false := beq_eq_false_iff_ne.mpr hg9
 refine if l1x : x0 < 1 then ?p63 else ?q63
 case' p63 =>
  have l1xb : decide (x0 < 1) = true := decide_eq_true l1x
  have hv : nE x0 x1 x2 x3 n ob (decide (oo = 3) || decide (oo = 7)) os tv em = 16 := by simp [nE, hg8, hg9, show x0 < 1 by omega]
 case' q63 =>
  have l1xb : decide (x0 < 1) = false := decide_eq_false l1x
  refine if l9x : x0 > 9 then ?p62 else ?q62
  case' p62 =>
   have l9xb : decide (x0 > 9) = true := decide_eq_true l9x
   have hv : nE x0 x1 x2 x3 n ob (decide (oo = 3) || decide (oo = 7)) os tv em = 16 := by simp [nE, hg8, hg9, show ¬ x0 < 1 by omega, show 9 < x0 by omega]
  case' q62 =>
   have l9xb : decide (x0 > 9) = false := decide_eq_false l9x
   refine if s0 : x1 = 0 then ?p61 else ?q61
   case' p61 =>
    subst x1
    refine if k3 : x0 = 3 then ?p48 else ?q48
    case' p48 =>
     subst x0
     refine if c1x : x2 < 0 then ?p42 else ?q42
     case' p42 =>
      have c1xb : decide (x2 < 0) = true := decide_eq_true c1x
      have hv : nE 3 0 x2 x3 n ob (decide (oo = 3) || decide (oo = 7)) os tv em = 16 := by simp [nE, hg8, hg9, show ¬ 3 < 1 by omega, show ¬ 9 < 3 by omega, show x2 < 0 by omega]
     case' q42 =>
      have c1xb : decide (x2 < 0) = false := decide_eq_false c1x
      refine if c8x : x2 ≥ 8 then ?p41 else ?q41
      case' p41 =>
       have c8xb : decide (x2 ≥ 8) = true := decide_eq_true c8x
       have hv : nE 3 0 x2 x3 n ob (decide (oo = 3) || decide (oo = 7)) os tv em = 16 := by simp [nE, hg8, hg9, show ¬ 3 < 1 by omega, show ¬ 9 < 3 by omega, show ¬ x2 < 0 by omega, show 8 ≤ x2 by omega]
      case' q41 =>
       have c8xb : decide (x2 ≥ 8) = false := decide_eq_false c8x
       refine if nz : x3 = 0 then ?p40 else ?q40
       case' p40 =>
        subst x3
        refine if e39 : em = true then ?p39 else ?q39
        case' p39 =>
         subst e39
         have em1 : (x4.toList != ([] : List UInt8)) = false := hem'
         clear hem'
         have hv : nE 3 0 x2 0 n ob (decide (oo = 3) || decide (oo = 7)) os tv true = 0 := by simp [nE, hg8, hg9, show ¬ 3 < 1 by omega, show ¬ 9 < 3 by omega, show ¬ x2 < 0 by omega, show ¬ 8 ≤ x2 by omega]
        case' q39 =>
         have e39 := Bool.eq_false_iff.mpr e39
         subst e39
         have em1 : (x4.toList != ([] : List UInt8)) = true := hem'
         clear hem'
         have hv : nE 3 0 x2 0 n ob (decide (oo = 3) || decide (oo = 7)) os tv false = 6 := by simp [nE, hg8, hg9, show ¬ 3 < 1 by omega, show ¬ 9 < 3 by omega, show ¬ x2 < 0 by omega, show ¬ 8 ≤ x2 by omega]
       case' q40 =>
        have nzb : (x3 == 0) = false := beq_eq_false_iff_ne.mpr nz
        have nzc : (x3 != 0) = true := bne_iff_ne.mpr nz
        have hv : nE 3 0 x2 x3 n ob (decide (oo = 3) || decide (oo = 7)) os tv em = 16 := by simp [nE, hg8, hg9, show ¬ 3 < 1 by omega, show ¬ 9 < 3 by omega, show ¬ x2 < 0 by omega, show ¬ 8 ≤ x2 by omega, nz]
    case' q48 =>
     have k3b : (x0 == 3) = false := beq_eq_false_iff_ne.mpr k3
     have k3c : (x0 != 3) = true := bne_iff_ne.mpr k3
     refine if c0 : x2 = 0 then ?p47 else ?q47
     case' p47 =>
      subst x2
      refine if nz : x3 = 0 then ?p46 else ?q46
      case' p46 =>
       subst x3
       refine if n4 : x0 = 4 then ?p45 else ?q45
       case' p45 =>
        subst x0
        obtain ⟨c3, c4, hw⟩ := HWT.out (by omega)
        have HWW := Aside0.mk hw
        clear hw
        refine if e43 : tv = true then ?p43 else ?q43
        case' p43 =>
         subst e43
         have hv : nE 4 0 0 0 n ob (decide (oo = 3) || decide (oo = 7)) os true em = 0 := by simp [nE, hg8, hg9, show ¬ 4 < 1 by omega, show ¬ 9 < 4 by omega, k3]
        case' q43 =>
         have e43 := Bool.eq_false_iff.mpr e43
         subst e43
         have hv : nE 4 0 0 0 n ob (decide (oo = 3) || decide (oo = 7)) os false em = 6 := by simp [nE, hg8, hg9, show ¬ 4 < 1 by omega, show ¬ 9 < 4 by omega, k3]
       case' q45 =>
        have n4b : (x0 == 4) = false := beq_eq_false_iff_ne.mpr n4
        have n4c : (x0 != 4) = true := bne_iff_ne.mpr n4
        refine if e44 : em = true then ?p44 else ?q44
        case' p44 =>
         subst e44
         have em1 : (x4.toList != ([] : List UInt8)) = false := hem'
         clear hem'
         have hv : nE x0 0 0 0 n ob (decide (oo = 3) || decide (oo = 7)) os tv true = 0 := by simp [nE, hg8, hg9, show ¬ x0 < 1 by omega, show ¬ 9 < x0 by omega, k3, n4]
        case' q44 =>
         have e44 := Bool.eq_false_iff.mpr e44
         subst e44
         have em1 : (x4.toList != ([] : List UInt8)) = true := hem'
         clear hem'
         have hv : nE x0 0 0 0 n ob (decide (oo = 3) || decide (oo = 7)) os tv false = 6 := by simp [nE, hg8, hg9, show ¬ x0 < 1 by omega, show ¬ 9 < x0 by omega, k3, n4]
      case' q46 =>
       have nzb : (x3 == 0) = false := beq_eq_false_iff_ne.mpr nz
       have nzc : (x3 != 0) = true := bne_iff_ne.mpr nz
       have hv : nE x0 0 0 x3 n ob (decide (oo = 3) || decide (oo = 7)) os tv em = 16 := by simp [nE, hg8, hg9, show ¬ x0 < 1 by omega, show ¬ 9 < x0 by omega, k3, nz]
     case' q47 =>
      have c0b : (x2 == 0) = false := beq_eq_false_iff_ne.mpr c0
      have c0c : (x2 != 0) = true := bne_iff_ne.mpr c0
      have hv : nE x0 0 x2 x3 n ob (decide (oo = 3) || decide (oo = 7)) os tv em = 16 := by simp [nE, hg8, hg9, show ¬ x0 < 1 by omega, show ¬ 9 < x0 by omega, k3, c0]
   case' q61 =>
    have s0b : (x1 == 0) = false := beq_eq_false_iff_ne.mpr s0
    have s0c : (x1 != 0) = true := bne_iff_ne.mpr s0
    refine if n1 : x1 ≥ n then ?p60 else ?q60
    case' p60 =>
     have n1b : decide (x1 ≥ n) = true := decide_eq_true n1
     have hv : nE x0 x1 x2 x3 n ob (decide (oo = 3) || decide (oo = 7)) os tv em = 16 := by simp [nE, hg8, hg9, show ¬ x0 < 1 by omega, show ¬ 9 < x0 by omega, s0, show n ≤ x1 by omega]
    case' q60 =>
     have n1b : decide (x1 ≥ n) = false := decide_eq_false n1
     refine if e49 : ob = true then ?p49 else ?q49
     case' p49 =>
      subst e49
      refine if k3 : x0 = 3 then ?p59 else ?q59
      case' p59 =>
       subst x0
       refine if c1x : x2 < 0 then ?p53 else ?q53
       case' p53 =>
        have c1xb : decide (x2 < 0) = true := decide_eq_true c1x
        have hv : nE 3 x1 x2 x3 n true (decide (oo = 3) || decide (oo = 7)) os tv em = 16 := by simp [nE, hg8, hg9, show ¬ 3 < 1 by omega, show ¬ 9 < 3 by omega, s0, show ¬ n ≤ x1 by omega, show x2 < 0 by omega]
       case' q53 =>
        have c1xb : decide (x2 < 0) = false := decide_eq_false c1x
        refine if c8x : x2 ≥ 8 then ?p52 else ?q52
        case' p52 =>
         have c8xb : decide (x2 ≥ 8) = true := decide_eq_true c8x
         have hv : nE 3 x1 x2 x3 n true (decide (oo = 3) || decide (oo = 7)) os tv em = 16 := by simp [nE, hg8, hg9, show ¬ 3 < 1 by omega, show ¬ 9 < 3 by omega, s0, show ¬ n ≤ x1 by omega, show ¬ x2 < 0 by omega, show 8 ≤ x2 by omega]
        case' q52 =>
         have c8xb : decide (x2 ≥ 8) = false := decide_eq_false c8x
         refine if nz : x3 = 0 then ?p51 else ?q51
         case' p51 =>
          subst x3
          refine if e50 : em = true then ?p50 else ?q50
          case' p50 =>
           subst e50
           have em1 : (x4.toList != ([] : List UInt8)) = false := hem'
           clear hem'
           have hv : nE 3 x1 x2 0 n true (decide (oo = 3) || decide (oo = 7)) os tv true = 0 := by simp [nE, hg8, hg9, show ¬ 3 < 1 by omega, show ¬ 9 < 3 by omega, s0, show ¬ n ≤ x1 by omega, show ¬ x2 < 0 by omega, show ¬ 8 ≤ x2 by omega]
          case' q50 =>
           have e50 := Bool.eq_false_iff.mpr e50
           subst e50
           have em1 : (x4.toList != ([] : List UInt8)) = true := hem'
           clear hem'
           have hv : nE 3 x1 x2 0 n true (decide (oo = 3) || decide (oo = 7)) os tv false = 6 := by simp [nE, hg8, hg9, show ¬ 3 < 1 by omega, show ¬ 9 < 3 by omega, s0, show ¬ n ≤ x1 by omega, show ¬ x2 < 0 by omega, show ¬ 8 ≤ x2 by omega]
         case' q51 =>
          have nzb : (x3 == 0) = false := beq_eq_false_iff_ne.mpr nz
          have nzc : (x3 != 0) = true := bne_iff_ne.mpr nz
          have hv : nE 3 x1 x2 x3 n true (decide (oo = 3) || decide (oo = 7)) os tv em = 16 := by simp [nE, hg8, hg9, show ¬ 3 < 1 by omega, show ¬ 9 < 3 by omega, s0, show ¬ n ≤ x1 by omega, show ¬ x2 < 0 by omega, show ¬ 8 ≤ x2 by omega, nz]
      case' q59 =>
       have k3b : (x0 == 3) = false := beq_eq_false_iff_ne.mpr k3
       have k3c : (x0 != 3) = true := bne_iff_ne.mpr k3
       refine if c0 : x2 = 0 then ?p58 else ?q58
       case' p58 =>
        subst x2
        refine if nz : x3 = 0 then ?p57 else ?q57
        case' p57 =>
         subst x3
         refine if n4 : x0 = 4 then ?p56 else ?q56
         case' p56 =>
          subst x0
          obtain ⟨c3, c4, hw⟩ := HWT.out (by omega)
          have HWW := Aside0.mk hw
          clear hw
          refine if e54 : tv = true then ?p54 else ?q54
          case' p54 =>
           subst e54
           have hv : nE 4 x1 0 0 n true (decide (oo = 3) || decide (oo = 7)) os true em = 0 := by simp [nE, hg8, hg9, show ¬ 4 < 1 by omega, show ¬ 9 < 4 by omega, s0, show ¬ n ≤ x1 by omega, k3]
          case' q54 =>
           have e54 := Bool.eq_false_iff.mpr e54
           subst e54
           have hv : nE 4 x1 0 0 n true (decide (oo = 3) || decide (oo = 7)) os false em = 6 := by simp [nE, hg8, hg9, show ¬ 4 < 1 by omega, show ¬ 9 < 4 by omega, s0, show ¬ n ≤ x1 by omega, k3]
         case' q56 =>
          have n4b : (x0 == 4) = false := beq_eq_false_iff_ne.mpr n4
          have n4c : (x0 != 4) = true := bne_iff_ne.mpr n4
          refine if e55 : em = true then ?p55 else ?q55
          case' p55 =>
           subst e55
           have em1 : (x4.toList != ([] : List UInt8)) = false := hem'
           clear hem'
           have hv : nE x0 x1 0 0 n true (decide (oo = 3) || decide (oo = 7)) os tv true = 0 := by simp [nE, hg8, hg9, show ¬ x0 < 1 by omega, show ¬ 9 < x0 by omega, s0, show ¬ n ≤ x1 by omega, k3, n4]
          case' q55 =>
           have e55 := Bool.eq_false_iff.mpr e55
           subst e55
           have em1 : (x4.toList != ([] : List UInt8)) = true := hem'
           clear hem'
           have hv : nE x0 x1 0 0 n true (decide (oo = 3) || decide (oo = 7)) os tv false = 6 := by simp [nE, hg8, hg9, show ¬ x0 < 1 by omega, show ¬ 9 < x0 by omega, s0, show ¬ n ≤ x1 by omega, k3, n4]
        case' q57 =>
         have nzb : (x3 == 0) = false := beq_eq_false_iff_ne.mpr nz
         have nzc : (x3 != 0) = true := bne_iff_ne.mpr nz
         have hv : nE x0 x1 0 x3 n true (decide (oo = 3) || decide (oo = 7)) os tv em = 16 := by simp [nE, hg8, hg9, show ¬ x0 < 1 by omega, show ¬ 9 < x0 by omega, s0, show ¬ n ≤ x1 by omega, k3, nz]
       case' q58 =>
        have c0b : (x2 == 0) = false := beq_eq_false_iff_ne.mpr c0
        have c0c : (x2 != 0) = true := bne_iff_ne.mpr c0
        have hv : nE x0 x1 x2 x3 n true (decide (oo = 3) || decide (oo = 7)) os tv em = 16 := by simp [nE, hg8, hg9, show ¬ x0 < 1 by omega, show ¬ 9 < x0 by omega, s0, show ¬ n ≤ x1 by omega, k3, c0]
     case' q49 =>
      have e49 := Bool.eq_false_iff.mpr e49
      subst e49
      have hv : nE x0 x1 x2 x3 n false (decide (oo = 3) || decide (oo = 7)) os tv em = 16 := by simp [nE, hg8, hg9, show ¬ x0 < 1 by omega, show ¬ 9 < x0 by omega, s0, show ¬ n ≤ x1 by omega]
 all_goals
  go_enter Tryz.func28, Tryz.ntmps28
  go_wp2_with (first | (go_at_call 31; (with_reducible refine (zaq.calls a0 _ _ l1 _ _ l2 _ _ _ (Kd.C_below HC1.out (by repeat (first | exact HLOW.out | apply pw_below_drewN | apply below_alloc | apply below_drew1))) HL1.out (Kd.C_below HC2.out (by repeat (first | exact HLOW.out | apply pw_below_drewN | apply below_alloc | apply below_drew1))) HL2.out HOB.out).mono ?_); rintro e w9 ⟨rfl, hb9⟩; have n0 := Bx.below (by repeat (first | exact HBX.out | apply Bx.drewN | apply Bx.drew)) hb9; clear HBX HLOW; have HBX := Aside0.mk n0; have HLOW := Aside0.mk n0.low; obtain ⟨g5, g6, g7⟩ := zbh n0.1.out; obtain ⟨q0, q1, q2, q3, q4⟩ := zbg n0.2.1.out; clear n0 hb9) | (go_at_call 48; (with_reducible refine (zak.calls a0 _ _ l1 _ _ l2 _ _ _ (Kd.C_below HC1.out (by repeat (first | exact HLOW.out | apply pw_below_drewN | apply below_alloc | apply below_drew1))) HL1.out (Kd.C_below HC2.out (by repeat (first | exact HLOW.out | apply pw_below_drewN | apply below_alloc | apply below_drew1))) HL2.out HKD.out).mono ?_); rintro e w9 ⟨rfl, hb9⟩; have n0 := Bx.below (by repeat (first | exact HBX.out | apply Bx.drewN | apply Bx.drew)) hb9; clear HBX HLOW; have HBX := Aside0.mk n0; have HLOW := Aside0.mk n0.low; obtain ⟨g5, g6, g7⟩ := zbh n0.1.out; obtain ⟨q0, q1, q2, q3, q4⟩ := zbg n0.2.1.out; clear n0 hb9; try have u1 := HU1.out _ HLOW.out) | (go_at_call 49; (with_reducible refine (zag.calls _ a0 _ _ l1 _ _ l2 _ _ _ _ _ (Kd.C_below HC1.out (by repeat (first | exact HLOW.out | apply pw_below_drewN | apply below_alloc | apply below_drew1))) HL1.out (Kd.C_below HC2.out (by repeat (first | exact HLOW.out | apply pw_below_drewN | apply below_alloc | apply below_drew1))) HL2.out HWW.out).mono ?_); rintro e w8 ⟨rfl, hb8⟩; have n0 := Aside0.mk (below_step (by repeat (first | exact HLOW.out | apply pw_below_drewN | apply below_alloc | apply below_drew1)) hb8); clear HLOW; have HLOW := n0; clear n0 hb8))
  repeat (go_quiet (fail); try go_wp2_with (first | (go_at_call 31; (with_reducible refine (zaq.calls a0 _ _ l1 _ _ l2 _ _ _ (Kd.C_below HC1.out (by repeat (first | exact HLOW.out | apply pw_below_drewN | apply below_alloc | apply below_drew1))) HL1.out (Kd.C_below HC2.out (by repeat (first | exact HLOW.out | apply pw_below_drewN | apply below_alloc | apply below_drew1))) HL2.out HOB.out).mono ?_); rintro e w9 ⟨rfl, hb9⟩; have n0 := Bx.below (by repeat (first | exact HBX.out | apply Bx.drewN | apply Bx.drew)) hb9; clear HBX HLOW; have HBX := Aside0.mk n0; have HLOW := Aside0.mk n0.low; obtain ⟨g5, g6, g7⟩ := zbh n0.1.out; obtain ⟨q0, q1, q2, q3, q4⟩ := zbg n0.2.1.out; clear n0 hb9) | (go_at_call 48; (with_reducible refine (zak.calls a0 _ _ l1 _ _ l2 _ _ _ (Kd.C_below HC1.out (by repeat (first | exact HLOW.out | apply pw_below_drewN | apply below_alloc | apply below_drew1))) HL1.out (Kd.C_below HC2.out (by repeat (first | exact HLOW.out | apply pw_below_drewN | apply below_alloc | apply below_drew1))) HL2.out HKD.out).mono ?_); rintro e w9 ⟨rfl, hb9⟩; have n0 := Bx.below (by repeat (first | exact HBX.out | apply Bx.drewN | apply Bx.drew)) hb9; clear HBX HLOW; have HBX := Aside0.mk n0; have HLOW := Aside0.mk n0.low; obtain ⟨g5, g6, g7⟩ := zbh n0.1.out; obtain ⟨q0, q1, q2, q3, q4⟩ := zbg n0.2.1.out; clear n0 hb9; try have u1 := HU1.out _ HLOW.out) | (go_at_call 49; (with_reducible refine (zag.calls _ a0 _ _ l1 _ _ l2 _ _ _ _ _ (Kd.C_below HC1.out (by repeat (first | exact HLOW.out | apply pw_below_drewN | apply below_alloc | apply below_drew1))) HL1.out (Kd.C_below HC2.out (by repeat (first | exact HLOW.out | apply pw_below_drewN | apply below_alloc | apply below_drew1))) HL2.out HWW.out).mono ?_); rintro e w8 ⟨rfl, hb8⟩; have n0 := Aside0.mk (below_step (by repeat (first | exact HLOW.out | apply pw_below_drewN | apply below_alloc | apply below_drew1)) hb8); clear HLOW; have HLOW := n0; clear n0 hb8)))
  go_ret
  exact ⟨by first | rfl | exact congrArg (fun z => Ending.returned (Value.int .i64 z)) hv.symm, by repeat (first | exact HLOW.out | apply pw_below_drewN | apply below_alloc | apply below_drew1)⟩
end Go.Proofs.YtcaegaljhogbjaaGreatDoor.Gr

set_option linter.unusedVariables false
namespace Go.Proofs.YtcaegaljhogbjaaGreatDoor.Y
open Go.RowKit Go.Lib Go.Proofs.YtcaegaljhogbjaaGreatDoorW.PrintWords Go.Proofs.YtcaegaljhogbjaaGreatDoorW.PrintLast Go.Proofs.YtcaegaljhogbjaaGreatDoorW.PrintMore Go.Proofs.YtcaegaljhogbjaaGreatDoor.Gr
def zao.f (k : Nat) (a0_0 : ByteArray) (l0_1 : List S38) (l0_2 : List S40) (a1 : Int) : Option Int :=
  if (decide (l0_1.length ≤ 1000000) && decide (inL l0_1 a1) && decide ((nd l0_1 a1).f4.size ≤ 1000)) = true then some (nodeE l0_1 a1 (nd l0_1 a1)) else none
theorem zao.mono : ∀ a0 a1 a2 a3 k, LeO (zao.f k a0 a1 a2 a3) (zao.f (k + 1) a0 a1 a2 a3) := fun _ _ _ _ _ => LeO.refl _
theorem zao.calls (k : Nat) (a0_0 : ByteArray) (A0_1 : Option Addr) (c0_1 : Nat) (l0_1 : List (S38)) (A0_2 : Option Addr) (c0_2 : Nat) (l0_2 : List (S40)) (a1 : Int) (r : Int) (w : World) (hr0_1 : Kd.C k38 w A0_1 l0_1.length l0_1) (hc0_1 : l0_1.length ≤ c0_1) (hr0_2 : Kd.C k40 w A0_2 l0_2.length l0_2) (hc0_2 : l0_2.length ≤ c0_2) (h : zao.f k a0_0 l0_1 l0_2 a1 = some r) :
    Calls Tryz.prog 28 #[.agg #[.string a0_0, .slice A0_1 l0_1.length c0_1, .slice A0_2 l0_2.length c0_2], .int .i64 a1] w fun e w' => e = .returned (.int .i64 r) ∧ Below w.heap.size w w' := by
  unfold zao.f at h
  split at h
  case isFalse => cases h
  rename_i hc
  simp only [Bool.and_eq_true, decide_eq_true_eq] at hc
  obtain ⟨⟨hl, hn⟩, ha⟩ := hc
  rw [← Option.some.inj h]
  by_cases h8 : (nd l0_1 a1).f0 = 8
  · exact rnode_8 a0_0 A0_1 c0_1 l0_1 A0_2 c0_2 l0_2 a1 w hl hr0_1 hc0_1 hr0_2 hc0_2 hn ha h8
  · by_cases h9 : (nd l0_1 a1).f0 = 9
    · exact rnode_9 a0_0 A0_1 c0_1 l0_1 A0_2 c0_2 l0_2 a1 w hl hr0_1 hc0_1 hr0_2 hc0_2 hn ha h9
    · exact rnode_r a0_0 A0_1 c0_1 l0_1 A0_2 c0_2 l0_2 a1 w hl hr0_1 hc0_1 hr0_2 hc0_2 hn ha h8 h9
end Go.Proofs.YtcaegaljhogbjaaGreatDoor.Y
