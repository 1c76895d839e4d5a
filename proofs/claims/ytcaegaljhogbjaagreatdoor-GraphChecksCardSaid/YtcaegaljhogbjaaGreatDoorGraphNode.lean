/- (number).node, walked by hand (written by wip/tools/gen_gn.py). -/
import Derived.Test.YtcaegaljhogbjaaGreatDoorGraphFlow
import Derived.Test.YtcaegaljhogbjaaGreatDoorNodeE
set_option linter.unusedVariables false
set_option linter.unusedSimpArgs false
namespace Go.Proofs.YtcaegaljhogbjaaGreatDoor.Gr
open Go.RowKit Go.Lib Go.Sort Go.Proofs.YtcaegaljhogbjaaGreatDoorW.PrintWords Go.Proofs.YtcaegaljhogbjaaGreatDoorW.PrintLast Go.Proofs.YtcaegaljhogbjaaGreatDoorW.PrintMore Go.Proofs.YtcaegaljhogbjaaGreatDoor.Y Go.Proofs.YtcaegaljhogbjaaGreatDoor.Gd

set_option maxHeartbeats 16000000 in
set_option maxRecDepth 100000 in
theorem gnode_calls (a0 : ByteArray) (A1 : Option Addr) (c1 : Nat) (l1 : List S38) (A2 : Option Addr) (c2 : Nat) (l2 : List S40) (b1 b2 : Nat) (n : Int) (w : World)
  (hl : l1.length ≤ 1000000) (hC1 : Kd.C k38 w A1 l1.length l1) (hc1 : l1.length ≤ c1) (hC2 : Kd.C k40 w A2 l2.length l2) (hc2 : l2.length ≤ c2) (hn : inL l1 n) (ha : (nd l1 n).f4.size ≤ 1000) :
  Calls Tryz.prog 23 #[.agg #[.string a0, .slice A1 l1.length c1, .slice A2 l2.length c2, .map (some b1), .map (some b2)], .int .i64 n] w fun e w' => e = .returned (.int .i64 (nodeE l1 n (nd l1 n))) ∧ Below w.heap.size w w' := by
 obtain ⟨hwn, p, q⟩ := in_w hl hn
 clear hwn
 have hw := waits_eq (nd l1 n)
 have e1 := at_eq (s := a0) (l2 := l2) hl (nd l1 n).f1
 have e2 := at_eq (s := a0) (l2 := l2) hl (nd l1 n).f3
 have f1 : decide (inL l1 (nd l1 n).f1) = false → opn (atS l1 (nd l1 n).f1).f0 = false := fun h => by
  rw [at_kind, kindAt, if_neg (of_decide_eq_false h)]; rfl
 have f2 : decide (inL l1 (nd l1 n).f3) = false → decide ((atS l1 (nd l1 n).f3).f0 = 3 ∨ (atS l1 (nd l1 n).f3).f0 = 7) = false := fun h => by
  rw [at_kind, kindAt, if_neg (of_decide_eq_false h)]; rfl
 rw [nodeE_at]
 unfold nd at *
 have hjw : (IntKind.i64.wrap (n - 1)) = wrap64 (n - 1) := i64_w _
 generalize wrap64 (n - 1) = j at *
 obtain ⟨ad, e, hx0, hx1, hx2, hx3, hx4⟩ := zbc hC1 j p q
 subst e
 have HC1 := Aside0.mk hC1
 have HC2 := Aside0.mk hC2
 have HL1 := Aside0.mk hc1
 have HL2 := Aside0.mk hc2
 have hbl := World.block_lt_of_cell? w _ hx0
 have hne : (ad.add (j.toNat * 5)).block ≠ w.heap.size := Nat.ne_of_lt hbl
 have p' := eq_true p
 have q' := eq_true q
 generalize zba l1 j = x at *
 obtain ⟨x0, x1, x2, x3, x4⟩ := x
 dsimp only at *
 have HWT := Aside0.mk (fun h => hw h ha 5001 (Nat.le_refl _))
 obtain ⟨tv, htv⟩ : ∃ b, timeV ⟨x0, x1, x2, x3, x4⟩ = b := ⟨_, rfl⟩
 obtain ⟨em, hem⟩ : ∃ b, (x4.toList == ([] : List UInt8)) = b := ⟨_, rfl⟩
 have hem' : (x4.toList != ([] : List UInt8)) = !em := by rw [← hem]; rfl
 rw [htv] at HWT ⊢
 rw [hem]
 generalize atS l1 x1 = sc at *
 generalize atS l1 x3 = on at *
 generalize decide (inL l1 x1) = is1 at *
 generalize decide (inL l1 x3) = is2 at *
 obtain ⟨sk, s1, s2, s3, s4⟩ := sc
 obtain ⟨oo, os, o2, o3, o4⟩ := on
 dsimp only at *
 have HOB := Aside0.mk (opens_eq sk)
 have HAC := Aside0.mk (active_eq oo)
 have HF1 := Aside0.mk f1
 have HF2 := Aside0.mk f2
 generalize opn sk = ob at *
 generalize decide (oo = 3 ∨ oo = 7) = act at *
 have HX := Aside0.mk e1
 have HAT := Aside0.mk e2
 obtain ⟨hg, hhg⟩ : ∃ hg, zbk.f x0 = some hg := by unfold zbk.f; split <;> exact ⟨_, rfl⟩
 obtain ⟨ik, hik⟩ : ∃ ik, zbt.f x0 1 9 = some ik := by unfold zbt.f; split <;> exact ⟨_, rfl⟩
 obtain ⟨im, him⟩ : ∃ im, zbt.f x2 0 7 = some im := by unfold zbt.f; split <;> exact ⟨_, rfl⟩
 have HHG := Aside0.mk hhg
 have HIK := Aside0.mk hik
 have HIM := Aside0.mk him
 clear hC1 hC2 hc1 hc2 e1 e2 f1 f2 hw hl hn ha hhg hik him htv
 go_enter Tryz.func23, Tryz.ntmps23
 go_wp2_with fail
 have HF := Bx.new w #[.string a0, .slice (some ad) l1.length c1, .slice A2 l2.length c2, .map (some b1), .map (some b2)] 53 #[.int .i64 x0, .int .i64 x1, .int .i64 x2, .int .i64 x3, .string x4] 38
 generalize hw : (w.alloc (.cells #[.string a0, .slice (some ad) l1.length c1, .slice A2 l2.length c2, .map (some b1), .map (some b2)] 53)).alloc (.cells #[.int .i64 x0, .int .i64 x1, .int .i64 x2, .int .i64 x3, .string x4] 38) = wc at *
 clear hw hx0 hx1 hx2 hx3 hx4 hbl hne
 have HBX := Aside0.mk HF
 clear HF
 refine (zbu.calls a0 _ _ l1 _ _ l2 x1 sk s1 s2 s3 s4 is1 _ (Kd.C_below HC1.out HBX.out.low) HL1.out (Kd.C_below HC2.out HBX.out.low) HL2.out HX.out).mono ?_
 rintro e w3 ⟨rfl, hb3⟩
 have n0 := Aside0.mk ((HBX.out.below hb3).below (below_alloc (Below.refl _ _) (.cells #[.int .i64 sk, .int .i64 s1, .int .i64 s2, .int .i64 s3, .string s4] 38)))
 have HN1 := Aside0.mk (blk_new w3 (.cells #[.int .i64 sk, .int .i64 s1, .int .i64 s2, .int .i64 s3, .string s4] 38))
 clear HBX hb3 HX
 have HBX := n0
 clear n0
 go_upto_block 0 with fail
 generalize w3.alloc (.cells #[.int .i64 sk, .int .i64 s1, .int .i64 s2, .int .i64 s3, .string s4] 38) = w4 at *
 generalize w3.heap.size = mm1 at *
 have HLOW := Aside0.mk HBX.out.low
 obtain ⟨g0, g1, g2, g3, g4⟩ := zbg HBX.out.1.out
 obtain ⟨z0, z1, z2, z3, z4⟩ := zbg HBX.out.2.1.out
 obtain ⟨m0, _, _, _, _⟩ := zbg HN1.out
 clear HN1
 refine if e1 : ik = true then ?p1 else ?q1
 case' p1 =>
  subst e1
  have hk := in_true HIK.out
  refine if s0 : x1 = 0 then ?p35 else ?q35
  case' p35 =>
   subst x1
   refine if k3 : x0 = 3 then ?p16 else ?q16
   case' p16 =>
    subst x0
    refine if e2 : im = true then ?p2 else ?q2
    case' p2 =>
     subst e2
     have hm := in_true HIM.out
     obtain rfl : hg = false := by have := hangs_eq 3; rw [HHG.out] at this; simpa using this
     obtain ⟨h8, h9⟩ := hangs_false HHG.out
     refine if nz : x3 = 0 then ?p4 else ?q4
     case' p4 =>
      subst x3
      refine if e3 : em = true then ?p3 else ?q3
      case' p3 =>
       subst e3
       have em1 : (x4.toList != ([] : List UInt8)) = false := hem'
       clear hem'
       have hv : nE 3 0 x2 0 n ob act os tv true = 0 := by simp [nE, show ¬ 3 < 1 by omega, show ¬ 9 < 3 by omega, show ¬ x2 < 0 by omega, show ¬ 8 ≤ x2 by omega, h8, h9]
      case' q3 =>
       have e3 := Bool.eq_false_iff.mpr e3
       subst e3
       have em1 : (x4.toList != ([] : List UInt8)) = true := hem'
       clear hem'
       have hv : nE 3 0 x2 0 n ob act os tv false = 6 := by simp [nE, show ¬ 3 < 1 by omega, show ¬ 9 < 3 by omega, show ¬ x2 < 0 by omega, show ¬ 8 ≤ x2 by omega, h8, h9]
     case' q4 =>
      have nzb : (x3 == 0) = false := beq_eq_false_iff_ne.mpr nz
      have nzc : (x3 != 0) = true := bne_iff_ne.mpr nz
      have hv : nE 3 0 x2 x3 n ob act os tv em = 16 := by simp [nE, show ¬ 3 < 1 by omega, show ¬ 9 < 3 by omega, show ¬ x2 < 0 by omega, show ¬ 8 ≤ x2 by omega, h8, h9, nz]
    case' q2 =>
     have e2 := Bool.eq_false_iff.mpr e2
     subst e2
     have hm := in_false HIM.out
     have hm' : x2 < 0 ∨ 8 ≤ x2 := by omega
     have hv : nE 3 0 x2 x3 n ob act os tv em = 16 := by simp [nE, show ¬ 3 < 1 by omega, show ¬ 9 < 3 by omega, hm']
   case' q16 =>
    have k3b : (x0 == 3) = false := beq_eq_false_iff_ne.mpr k3
    have k3c : (x0 != 3) = true := bne_iff_ne.mpr k3
    refine if c0 : x2 = 0 then ?p15 else ?q15
    case' p15 =>
     subst x2
     refine if e5 : hg = true then ?p5 else ?q5
     case' p5 =>
      subst e5
      have hh := hangs_true HHG.out
      refine if e6 : is2 = true then ?p6 else ?q6
      case' p6 =>
       subst e6
       refine if n3 : x3 ≥ n then ?p10 else ?q10
       case' p10 =>
        have n3b : decide (x3 ≥ n) = true := decide_eq_true n3
        have hv : nE x0 0 0 x3 n ob act os tv em = 16 := by simp [nE, show ¬ x0 < 1 by omega, show ¬ 9 < x0 by omega, k3, hh, show ¬ x3 < n by omega]
       case' q10 =>
        have n3b : decide (x3 ≥ n) = false := decide_eq_false n3
        refine if e7 : act = true then ?p7 else ?q7
        case' p7 =>
         subst e7
         refine if ns : os = 0 then ?p9 else ?q9
         case' p9 =>
          have nsb : (os == 0) = true := beq_iff_eq.mpr ns
          have nsc : (os != 0) = false := bne_eq_false_iff_eq.mpr ns
          have HNS := Aside0.mk ns
          clear ns
          obtain ⟨c1, c2, hw⟩ := HWT.out (by omega)
          have HWW := Aside0.mk hw
          clear hw
          refine if e8 : tv = true then ?p8 else ?q8
          case' p8 =>
           subst e8
           have hv : nE x0 0 0 x3 n ob true os true em = 0 := by simp [nE, show ¬ x0 < 1 by omega, show ¬ 9 < x0 by omega, k3, hh, show x3 < n by omega, HNS.out]
          case' q8 =>
           have e8 := Bool.eq_false_iff.mpr e8
           subst e8
           have hv : nE x0 0 0 x3 n ob true os false em = 6 := by simp [nE, show ¬ x0 < 1 by omega, show ¬ 9 < x0 by omega, k3, hh, show x3 < n by omega, HNS.out]
         case' q9 =>
          have nsb : (os == 0) = false := beq_eq_false_iff_ne.mpr ns
          have nsc : (os != 0) = true := bne_iff_ne.mpr ns
          have hv : nE x0 0 0 x3 n ob true os tv em = 16 := by simp [nE, show ¬ x0 < 1 by omega, show ¬ 9 < x0 by omega, k3, hh, show x3 < n by omega, ns]
        case' q7 =>
         have e7 := Bool.eq_false_iff.mpr e7
         subst e7
         have hv : nE x0 0 0 x3 n ob false os tv em = 16 := by simp [nE, show ¬ x0 < 1 by omega, show ¬ 9 < x0 by omega, k3, hh, show x3 < n by omega]
      case' q6 =>
       have e6 := Bool.eq_false_iff.mpr e6
       subst e6
       obtain rfl := HF2.out rfl
       have hv : nE x0 0 0 x3 n ob false os tv em = 16 := by simp [nE, show ¬ x0 < 1 by omega, show ¬ 9 < x0 by omega, k3, hh]
     case' q5 =>
      have e5 := Bool.eq_false_iff.mpr e5
      subst e5
      obtain ⟨h8, h9⟩ := hangs_false HHG.out
      refine if nz : x3 = 0 then ?p14 else ?q14
      case' p14 =>
       subst x3
       refine if n4 : x0 = 4 then ?p13 else ?q13
       case' p13 =>
        subst x0
        obtain ⟨c1, c2, hw⟩ := HWT.out (by omega)
        have HWW := Aside0.mk hw
        clear hw
        refine if e11 : tv = true then ?p11 else ?q11
        case' p11 =>
         subst e11
         have hv : nE 4 0 0 0 n ob act os true em = 0 := by simp [nE, show ¬ 4 < 1 by omega, show ¬ 9 < 4 by omega, k3, h8, h9]
        case' q11 =>
         have e11 := Bool.eq_false_iff.mpr e11
         subst e11
         have hv : nE 4 0 0 0 n ob act os false em = 6 := by simp [nE, show ¬ 4 < 1 by omega, show ¬ 9 < 4 by omega, k3, h8, h9]
       case' q13 =>
        have n4b : (x0 == 4) = false := beq_eq_false_iff_ne.mpr n4
        have n4c : (x0 != 4) = true := bne_iff_ne.mpr n4
        refine if e12 : em = true then ?p12 else ?q12
        case' p12 =>
         subst e12
         have em1 : (x4.toList != ([] : List UInt8)) = false := hem'
         clear hem'
         have hv : nE x0 0 0 0 n ob act os tv true = 0 := by simp [nE, show ¬ x0 < 1 by omega, show ¬ 9 < x0 by omega, k3, h8, h9, n4]
        case' q12 =>
         have e12 := Bool.eq_false_iff.mpr e12
         subst e12
         have em1 : (x4.toList != ([] : List UInt8)) = true := hem'
         clear hem'
         have hv : nE x0 0 0 0 n ob act os tv false = 6 := by simp [nE, show ¬ x0 < 1 by omega, show ¬ 9 < x0 by omega, k3, h8, h9, n4]
      case' q14 =>
       have nzb : (x3 == 0) = false := beq_eq_false_iff_ne.mpr nz
       have nzc : (x3 != 0) = true := bne_iff_ne.mpr nz
       have hv : nE x0 0 0 x3 n ob act os tv em = 16 := by simp [nE, show ¬ x0 < 1 by omega, show ¬ 9 < x0 by omega, k3, h8, h9, nz]
    case' q15 =>
     have c0b : (x2 == 0) = false := beq_eq_false_iff_ne.mpr c0
     have c0c : (x2 != 0) = true := bne_iff_ne.mpr c0
     have hv : nE x0 0 x2 x3 n ob act os tv em = 16 := by simp [nE, show ¬ x0 < 1 by omega, show ¬ 9 < x0 by omega, k3, c0]
  case' q35 =>
   have s0b : (x1 == 0) = false := beq_eq_false_iff_ne.mpr s0
   have s0c : (x1 != 0) = true := bne_iff_ne.mpr s0
   refine if e17 : is1 = true then ?p17 else ?q17
   case' p17 =>
    subst e17
    refine if n1 : x1 ≥ n then ?p34 else ?q34
    case' p34 =>
     have n1b : decide (x1 ≥ n) = true := decide_eq_true n1
     have hv : nE x0 x1 x2 x3 n ob act os tv em = 16 := by simp [nE, show ¬ x0 < 1 by omega, show ¬ 9 < x0 by omega, s0, show n ≤ x1 by omega]
    case' q34 =>
     have n1b : decide (x1 ≥ n) = false := decide_eq_false n1
     refine if e18 : ob = true then ?p18 else ?q18
     case' p18 =>
      subst e18
      refine if k3 : x0 = 3 then ?p33 else ?q33
      case' p33 =>
       subst x0
       refine if e19 : im = true then ?p19 else ?q19
       case' p19 =>
        subst e19
        have hm := in_true HIM.out
        obtain rfl : hg = false := by have := hangs_eq 3; rw [HHG.out] at this; simpa using this
        obtain ⟨h8, h9⟩ := hangs_false HHG.out
        refine if nz : x3 = 0 then ?p21 else ?q21
        case' p21 =>
         subst x3
         refine if e20 : em = true then ?p20 else ?q20
         case' p20 =>
          subst e20
          have em1 : (x4.toList != ([] : List UInt8)) = false := hem'
          clear hem'
          have hv : nE 3 x1 x2 0 n true act os tv true = 0 := by simp [nE, show ¬ 3 < 1 by omega, show ¬ 9 < 3 by omega, s0, show ¬ n ≤ x1 by omega, show ¬ x2 < 0 by omega, show ¬ 8 ≤ x2 by omega, h8, h9]
         case' q20 =>
          have e20 := Bool.eq_false_iff.mpr e20
          subst e20
          have em1 : (x4.toList != ([] : List UInt8)) = true := hem'
          clear hem'
          have hv : nE 3 x1 x2 0 n true act os tv false = 6 := by simp [nE, show ¬ 3 < 1 by omega, show ¬ 9 < 3 by omega, s0, show ¬ n ≤ x1 by omega, show ¬ x2 < 0 by omega, show ¬ 8 ≤ x2 by omega, h8, h9]
        case' q21 =>
         have nzb : (x3 == 0) = false := beq_eq_false_iff_ne.mpr nz
         have nzc : (x3 != 0) = true := bne_iff_ne.mpr nz
         have hv : nE 3 x1 x2 x3 n true act os tv em = 16 := by simp [nE, show ¬ 3 < 1 by omega, show ¬ 9 < 3 by omega, s0, show ¬ n ≤ x1 by omega, show ¬ x2 < 0 by omega, show ¬ 8 ≤ x2 by omega, h8, h9, nz]
       case' q19 =>
        have e19 := Bool.eq_false_iff.mpr e19
        subst e19
        have hm := in_false HIM.out
        have hm' : x2 < 0 ∨ 8 ≤ x2 := by omega
        have hv : nE 3 x1 x2 x3 n true act os tv em = 16 := by simp [nE, show ¬ 3 < 1 by omega, show ¬ 9 < 3 by omega, s0, show ¬ n ≤ x1 by omega, hm']
      case' q33 =>
       have k3b : (x0 == 3) = false := beq_eq_false_iff_ne.mpr k3
       have k3c : (x0 != 3) = true := bne_iff_ne.mpr k3
       refine if c0 : x2 = 0 then ?p32 else ?q32
       case' p32 =>
        subst x2
        refine if e22 : hg = true then ?p22 else ?q22
        case' p22 =>
         subst e22
         have hh := hangs_true HHG.out
         refine if e23 : is2 = true then ?p23 else ?q23
         case' p23 =>
          subst e23
          refine if n3 : x3 ≥ n then ?p27 else ?q27
          case' p27 =>
           have n3b : decide (x3 ≥ n) = true := decide_eq_true n3
           have hv : nE x0 x1 0 x3 n true act os tv em = 16 := by simp [nE, show ¬ x0 < 1 by omega, show ¬ 9 < x0 by omega, s0, show ¬ n ≤ x1 by omega, k3, hh, show ¬ x3 < n by omega]
          case' q27 =>
           have n3b : decide (x3 ≥ n) = false := decide_eq_false n3
           refine if e24 : act = true then ?p24 else ?q24
           case' p24 =>
            subst e24
            refine if ns : os = x1 then ?p26 else ?q26
            case' p26 =>
             have nsb : (os == x1) = true := beq_iff_eq.mpr ns
             have nsc : (os != x1) = false := bne_eq_false_iff_eq.mpr ns
             have HNS := Aside0.mk ns
             clear ns
             obtain ⟨c1, c2, hw⟩ := HWT.out (by omega)
             have HWW := Aside0.mk hw
             clear hw
             refine if e25 : tv = true then ?p25 else ?q25
             case' p25 =>
              subst e25
              have hv : nE x0 x1 0 x3 n true true os true em = 0 := by simp [nE, show ¬ x0 < 1 by omega, show ¬ 9 < x0 by omega, s0, show ¬ n ≤ x1 by omega, k3, hh, show x3 < n by omega, HNS.out]
             case' q25 =>
              have e25 := Bool.eq_false_iff.mpr e25
              subst e25
              have hv : nE x0 x1 0 x3 n true true os false em = 6 := by simp [nE, show ¬ x0 < 1 by omega, show ¬ 9 < x0 by omega, s0, show ¬ n ≤ x1 by omega, k3, hh, show x3 < n by omega, HNS.out]
            case' q26 =>
             have nsb : (os == x1) = false := beq_eq_false_iff_ne.mpr ns
             have nsc : (os != x1) = true := bne_iff_ne.mpr ns
             have hv : nE x0 x1 0 x3 n true true os tv em = 16 := by simp [nE, show ¬ x0 < 1 by omega, show ¬ 9 < x0 by omega, s0, show ¬ n ≤ x1 by omega, k3, hh, show x3 < n by omega, ns]
           case' q24 =>
            have e24 := Bool.eq_false_iff.mpr e24
            subst e24
            have hv : nE x0 x1 0 x3 n true false os tv em = 16 := by simp [nE, show ¬ x0 < 1 by omega, show ¬ 9 < x0 by omega, s0, show ¬ n ≤ x1 by omega, k3, hh, show x3 < n by omega]
         case' q23 =>
          have e23 := Bool.eq_false_iff.mpr e23
          subst e23
          obtain rfl := HF2.out rfl
          have hv : nE x0 x1 0 x3 n true false os tv em = 16 := by simp [nE, show ¬ x0 < 1 by omega, show ¬ 9 < x0 by omega, s0, show ¬ n ≤ x1 by omega, k3, hh]
        case' q22 =>
         have e22 := Bool.eq_false_iff.mpr e22
         subst e22
         obtain ⟨h8, h9⟩ := hangs_false HHG.out
         refine if nz : x3 = 0 then ?p31 else ?q31
         case' p31 =>
          subst x3
          refine if n4 : x0 = 4 then ?p30 else ?q30
          case' p30 =>
           subst x0
           obtain ⟨c1, c2, hw⟩ := HWT.out (by omega)
           have HWW := Aside0.mk hw
           clear hw
           refine if e28 : tv = true then ?p28 else ?q28
           case' p28 =>
            subst e28
            have hv : nE 4 x1 0 0 n true act os true em = 0 := by simp [nE, show ¬ 4 < 1 by omega, show ¬ 9 < 4 by omega, s0, show ¬ n ≤ x1 by omega, k3, h8, h9]
           case' q28 =>
            have e28 := Bool.eq_false_iff.mpr e28
            subst e28
            have hv : nE 4 x1 0 0 n true act os false em = 6 := by simp [nE, show ¬ 4 < 1 by omega, show ¬ 9 < 4 by omega, s0, show ¬ n ≤ x1 by omega, k3, h8, h9]
          case' q30 =>
           have n4b : (x0 == 4) = false := beq_eq_false_iff_ne.mpr n4
           have n4c : (x0 != 4) = true := bne_iff_ne.mpr n4
           refine if e29 : em = true then ?p29 else ?q29
           case' p29 =>
            subst e29
            have em1 : (x4.toList != ([] : List UInt8)) = false := hem'
            clear hem'
            have hv : nE x0 x1 0 0 n true act os tv true = 0 := by simp [nE, show ¬ x0 < 1 by omega, show ¬ 9 < x0 by omega, s0, show ¬ n ≤ x1 by omega, k3, h8, h9, n4]
           case' q29 =>
            have e29 := Bool.eq_false_iff.mpr e29
            subst e29
            have em1 : (x4.toList != ([] : List UInt8)) = true := hem'
            clear hem'
            have hv : nE x0 x1 0 0 n true act os tv false = 6 := by simp [nE, show ¬ x0 < 1 by omega, show ¬ 9 < x0 by omega, s0, show ¬ n ≤ x1 by omega, k3, h8, h9, n4]
         case' q31 =>
          have nzb : (x3 == 0) = false := beq_eq_false_iff_ne.mpr nz
          have nzc : (x3 != 0) = true := bne_iff_ne.mpr nz
          have hv : nE x0 x1 0 x3 n true act os tv em = 16 := by simp [nE, show ¬ x0 < 1 by omega, show ¬ 9 < x0 by omega, s0, show ¬ n ≤ x1 by omega, k3, h8, h9, nz]
       case' q32 =>
        have c0b : (x2 == 0) = false := beq_eq_false_iff_ne.mpr c0
        have c0c : (x2 != 0) = true := bne_iff_ne.mpr c0
        have hv : nE x0 x1 x2 x3 n true act os tv em = 16 := by simp [nE, show ¬ x0 < 1 by omega, show ¬ 9 < x0 by omega, s0, show ¬ n ≤ x1 by omega, k3, c0]
     case' q18 =>
      have e18 := Bool.eq_false_iff.mpr e18
      subst e18
      have hv : nE x0 x1 x2 x3 n false act os tv em = 16 := by simp [nE, show ¬ x0 < 1 by omega, show ¬ 9 < x0 by omega, s0, show ¬ n ≤ x1 by omega]
   case' q17 =>
    have e17 := Bool.eq_false_iff.mpr e17
    subst e17
    obtain rfl := HF1.out rfl
    have hv : nE x0 x1 x2 x3 n false act os tv em = 16 := by simp [nE, show ¬ x0 < 1 by omega, show ¬ 9 < x0 by omega, s0]
 case' q1 =>
  have e1 := Bool.eq_false_iff.mpr e1
  subst e1
  have hk := in_false HIK.out
  have hk' : x0 < 1 ∨ 9 < x0 := by omega
  have hv : nE x0 x1 x2 x3 n ob act os tv em = 16 := by simp [nE, hk']
 all_goals
  go_wp2_with (first | (go_at_call 43; (with_reducible refine (zbk.calls _ _ _ HHG.out).mono ?_); rintro e w7 ⟨rfl, ⟨nd, rfl⟩⟩) | (go_at_call 21; (with_reducible refine (zbt.calls _ 1 9 _ _ HIK.out).mono ?_); rintro e w7 ⟨rfl, ⟨nd, rfl⟩⟩) | (go_at_call 21; (with_reducible refine (zbt.calls _ 0 7 _ _ HIM.out).mono ?_); rintro e w7 ⟨rfl, ⟨nd, rfl⟩⟩) | (go_at_call 27; (with_reducible refine (zbo.calls _ _ _ HOB.out).mono ?_); rintro e w7 ⟨rfl, ⟨nd, rfl⟩⟩) | (go_at_call 45; (with_reducible refine (zbn.calls _ _ _ HAC.out).mono ?_); rintro e w7 ⟨rfl, ⟨nd, rfl⟩⟩) | (go_at_call 44; (with_reducible refine (zbl.calls _ _ _ _ _ _ _ _ _ _ HWW.out).mono ?_); rintro e w8 ⟨rfl, hb8⟩; have n0 := Aside0.mk (below_step (by repeat (first | exact HLOW.out | apply pw_below_drewN | apply below_alloc | apply below_drew1)) hb8); clear HLOW; have HLOW := n0; clear n0 hb8) | (go_at_call 41; (with_reducible refine (zbu.calls a0 _ _ l1 _ _ l2 _ _ _ _ _ _ _ _ (Kd.C_below HC1.out (by repeat (first | exact HLOW.out | apply pw_below_drewN | apply below_alloc | apply below_drew1))) HL1.out (Kd.C_below HC2.out (by repeat (first | exact HLOW.out | apply pw_below_drewN | apply below_alloc | apply below_drew1))) HL2.out HAT.out).mono ?_); rintro e w9 ⟨rfl, hb9⟩; have n0 := Aside0.mk ((Bx.below (by repeat (first | exact HBX.out | apply Bx.drewN | apply Bx.drew)) hb9).below (below_alloc (Below.refl _ _) (.cells #[.int .i64 oo, .int .i64 os, .int .i64 o2, .int .i64 o3, .string o4] 38))); clear HLOW; have HLOW := Aside0.mk (Bx.low (Bx.below (by repeat (first | exact HBX.out | apply Bx.drewN | apply Bx.drew)) hb9)); obtain ⟨q0, q1, q2, q3, q4⟩ := zbg n0.out.2.1.out; obtain ⟨y0, y1, _, _, _⟩ := zbg (blk_new w9 (.cells #[.int .i64 oo, .int .i64 os, .int .i64 o2, .int .i64 o3, .string o4] 38)); clear n0 hb9))
  go_ret
  exact ⟨congrArg (fun z => Ending.returned (Value.int .i64 z)) hv.symm, by repeat (first | exact HLOW.out | apply pw_below_drewN | apply below_alloc | apply below_drew1)⟩
end Go.Proofs.YtcaegaljhogbjaaGreatDoor.Gr
