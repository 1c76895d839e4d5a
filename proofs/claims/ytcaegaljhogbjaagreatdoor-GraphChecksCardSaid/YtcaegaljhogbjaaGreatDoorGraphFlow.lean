/- (number).flow, walked by hand: what is wrong of a flow. -/
import Derived.Test.YtcaegaljhogbjaaGreatDoorGraphOf
import Derived.Test.YtcaegaljhogbjaaGreatDoorNodeE
set_option linter.unusedVariables false
set_option linter.unusedSimpArgs false
namespace Go.Proofs.YtcaegaljhogbjaaGreatDoor.Gr
open Go.RowKit Go.Lib Go.Sort Go.Proofs.YtcaegaljhogbjaaGreatDoorW.PrintWords Go.Proofs.YtcaegaljhogbjaaGreatDoorW.PrintLast Go.Proofs.YtcaegaljhogbjaaGreatDoorW.PrintMore Go.Proofs.YtcaegaljhogbjaaGreatDoor.Y Go.Proofs.YtcaegaljhogbjaaGreatDoor.Gd

/-- What is wrong of a flow, where there are the nodes that it names. -/
def fE1 (s1 s2 : Int) (x : S40) (a b : Int) (outs : Nat) : Int :=
 if s1 = s2 then
  (if a = 2 then 17 else if a = 9 then 17 else if b = 1 then 17 else if b = 8 then 17 else if b = 9 then 17 else
   if x.f2 < 0 then 17 else if 3 < x.f2 then 17 else
   if x.f2 = 0 then mE x else if a = 5 then (if outs < 2 then 17 else mE x) else 17)
 else 17
theorem fE_eq (s1 s2 : Int) (x : S40) (a b : Int) (outs : Nat) : fE s1 s2 x a b outs = if a = 0 then 17 else if b = 0 then 17 else fE1 s1 s2 x a b outs := rfl
def gfV (is has : Bool) (s1 s2 : Int) (f : S40) (a b : Int) (outs : Nat) : Int := if is = false then 17 else if has = false then 17 else fE1 s1 s2 f a b outs
def gfE (is has : Bool) (x y : S38) (f : S40) (outs : Nat) : Int := if is = false then 17 else if has = false then 17 else fE1 x.f1 y.f1 f x.f0 y.f0 outs
theorem in_true {n a b : Int} (h : zbt.f n a b = some true) : a ≤ n ∧ n ≤ b := by
 unfold zbt.f at h
 split at h
 ·
  exact ⟨by omega, of_decide_eq_true (Option.some.inj h)⟩
 ·
  cases h
theorem in_false {n a b : Int} (h : zbt.f n a b = some false) : n < a ∨ b < n := by
 unfold zbt.f at h
 split at h
 ·
  have := of_decide_eq_false (Option.some.inj h)
  omega
 ·
  omega
theorem hangs_true {b : Int} (h : zbk.f b = some true) : b = 8 ∨ b = 9 := by
 unfold zbk.f at h
 split at h
 ·
  exact Or.inl (by assumption)
 ·
  exact Or.inr (beq_iff_eq.mp (Option.some.inj h))
theorem hangs_false {b : Int} (h : zbk.f b = some false) : b ≠ 8 ∧ b ≠ 9 := by
 unfold zbk.f at h
 split at h
 ·
  cases h
 ·
  exact ⟨by assumption, beq_eq_false_iff_ne.mp (Option.some.inj h)⟩
theorem GM.look {w w' : World} {b1 b2 : Nat} {l : List S40} (h : GM w b1 b2 l) (x : Int) : ∃ A cap, ∀ W, Below w.heap.size w W → (Instr.lookup 51 (.map (some b2)) (.int .i64 x) false).run Tryz.prog W = .ok (.slice A (cnt l (true, x)) cap) W := by
 obtain ⟨F, h1, h2, h3⟩ := h
 obtain ⟨A, cap, e⟩ := h3 (true, x)
 exact ⟨A, cap, fun W hW => by have := Mp.look Tryz.underlying51 Tryz.underlying3 zero36 (h2.below hW) x; rw [this]; simp only [e]⟩
theorem GM.look1 {w w' : World} {b1 b2 : Nat} {l : List S40} (h : GM w b1 b2 l) (x : Int) : ∃ A cap, ∀ W, Below w.heap.size w W → (Instr.lookup 51 (.map (some b1)) (.int .i64 x) false).run Tryz.prog W = .ok (.slice A (cnt l (false, x)) cap) W := by
 obtain ⟨F, h1, h2, h3⟩ := h
 obtain ⟨A, cap, e⟩ := h3 (false, x)
 exact ⟨A, cap, fun W hW => by have := Mp.look Tryz.underlying51 Tryz.underlying3 zero36 (h1.below hW) x; rw [this]; simp only [e]⟩

set_option maxHeartbeats 8000000 in
set_option maxRecDepth 100000 in
theorem gflow_calls (a0 : ByteArray) (A1 : Option Addr) (c1 : Nat) (l1 : List S38) (A2 : Option Addr) (c2 : Nat) (l2 : List S40) (b1 b2 : Nat) (n : Int) (w : World)
  (hC1 : Kd.C k38 w A1 l1.length l1) (hc1 : l1.length ≤ c1) (hC2 : Kd.C k40 w A2 l2.length l2) (hc2 : l2.length ≤ c2) (hG : GM w b1 b2 l2) (hW : Wrong w)
  (p : 0 ≤ wrap64 (n - 1)) (q : wrap64 (n - 1) < (l2.length : Int)) (x y : S38) (is has : Bool)
  (hx : zbu.f a0 l1 l2 (zbb l2 (wrap64 (n - 1))).f0 = some (x.f0, x.f1, x.f2, x.f3, x.f4, is)) (hy : zbu.f a0 l1 l2 (zbb l2 (wrap64 (n - 1))).f1 = some (y.f0, y.f1, y.f2, y.f3, y.f4, has)) :
  Calls Tryz.prog 24 #[.agg #[.string a0, .slice A1 l1.length c1, .slice A2 l2.length c2, .map (some b1), .map (some b2)], .int .i64 n] w fun e w' => e = .returned (.int .i64 (gfE is has x y (zbb l2 (wrap64 (n - 1))) (cnt l2 (true, (zbb l2 (wrap64 (n - 1))).f0)))) ∧ Below w.heap.size w w' := by
 have hjw : (IntKind.i64.wrap (n - 1)) = wrap64 (n - 1) := i64_w _
 generalize wrap64 (n - 1) = j at *
 obtain ⟨ad, e, hx0, hx1, hx2, hx3, hx4⟩ := zbd hC2 j p q
 subst e
 have HC1 := Aside0.mk hC1
 have HC2 := Aside0.mk hC2
 have HL1 := Aside0.mk hc1
 have HL2 := Aside0.mk hc2
 have HW := Aside0.mk hW
 have hbl := World.block_lt_of_cell? w _ hx0
 have hne : (ad.add (j.toNat * 5)).block ≠ w.heap.size := Nat.ne_of_lt hbl
 have p' := eq_true p
 have q' := eq_true q
 generalize zbb l2 j = f at *
 obtain ⟨fr, tt, kd, mx, gd⟩ := f
 dsimp only at hx0 hx1 hx2 hx3 hx4 hx hy ⊢
 have HX := Aside0.mk hx
 have HY := Aside0.mk hy
 obtain ⟨Ao, co, hlk⟩ := hG.look (w' := w) fr
 generalize cnt l2 (true, fr) = os at *
 have HLK := Aside0.mk hlk
 clear hC1 hC2 hc1 hc2 hW hG hx hy hlk
 obtain ⟨a, s1, xx2, xx3, xx4⟩ := x
 obtain ⟨b, s2, yy2, yy3, yy4⟩ := y
 dsimp only at HX HY
 change Calls _ _ _ _ fun e w' => e = .returned (.int .i64 (gfV is has s1 s2 ⟨fr, tt, kd, mx, gd⟩ a b os)) ∧ Below w.heap.size w w'
 go_enter Tryz.func24, Tryz.ntmps24
 go_wp2_with fail
 have HF := Bx.new w #[.string a0, .slice A1 l1.length c1, .slice (some ad) l2.length c2, .map (some b1), .map (some b2)] 53 #[.int .i64 fr, .int .i64 tt, .int .i64 kd, .int .i64 mx, .string gd] 40
 generalize hw : (w.alloc (.cells #[.string a0, .slice A1 l1.length c1, .slice (some ad) l2.length c2, .map (some b1), .map (some b2)] 53)).alloc (.cells #[.int .i64 fr, .int .i64 tt, .int .i64 kd, .int .i64 mx, .string gd] 40) = wc at *
 clear hw hx0 hx1 hx2 hx3 hx4 hbl hne
 have HBX := Aside0.mk HF
 clear HF
 refine (zbu.calls a0 _ _ l1 _ _ l2 fr a s1 xx2 xx3 xx4 is _ (Kd.C_below HC1.out HBX.out.low) HL1.out (Kd.C_below HC2.out HBX.out.low) HL2.out HX.out).mono ?_
 rintro e w3 ⟨rfl, hb3⟩
 have n0 := Aside0.mk ((HBX.out.below hb3).below (below_alloc (Below.refl _ _) (.cells #[.int .i64 a, .int .i64 s1, .int .i64 xx2, .int .i64 xx3, .string xx4] 38)))
 have HN1 := Aside0.mk (blk_new w3 (.cells #[.int .i64 a, .int .i64 s1, .int .i64 xx2, .int .i64 xx3, .string xx4] 38))
 clear HBX hb3
 have HBX := n0
 clear n0
 obtain ⟨g0, g1, g2, g3, g4⟩ := zbg HBX.out.1.out
 obtain ⟨f0, f1, f2, f3, f4⟩ := zbg HBX.out.2.1.out
 go_wp2_with fail
 clear g0 g1 g2 g3 g4 f0 f1 f2 f3 f4
 generalize hw4 : w3.alloc (.cells #[.int .i64 a, .int .i64 s1, .int .i64 xx2, .int .i64 xx3, .string xx4] 38) = w4 at *
 have hs4 : w3.heap.size < w4.heap.size := by rw [← hw4]; simp
 have HS4 := Aside0.mk hs4
 clear hw4 hs4
 generalize w3.heap.size = mm1 at *
 refine (zbu.calls a0 _ _ l1 _ _ l2 tt b s2 yy2 yy3 yy4 has _ (Kd.C_below HC1.out HBX.out.low) HL1.out (Kd.C_below HC2.out HBX.out.low) HL2.out HY.out).mono ?_
 rintro e w5 ⟨rfl, hb5⟩
 have n0 := Aside0.mk ((HBX.out.below hb5).below (below_alloc (Below.refl _ _) (.cells #[.int .i64 b, .int .i64 s2, .int .i64 yy2, .int .i64 yy3, .string yy4] 38)))
 have n1 := Aside0.mk (blk_alloc (blk_below HN1.out hb5) (.cells #[.int .i64 b, .int .i64 s2, .int .i64 yy2, .int .i64 yy3, .string yy4] 38))
 have HN2 := Aside0.mk (blk_new w5 (.cells #[.int .i64 b, .int .i64 s2, .int .i64 yy2, .int .i64 yy3, .string yy4] 38))
 clear HBX hb5 HN1
 have HBX := n0
 have HN1 := n1
 clear n0 n1
 go_upto_block 0 with fail
 generalize w5.alloc (.cells #[.int .i64 b, .int .i64 s2, .int .i64 yy2, .int .i64 yy3, .string yy4] 38) = w6 at *
 generalize w5.heap.size = mm2 at *
 have HLOW := Aside0.mk HBX.out.low
 have HWR := Aside0.mk (HW.out.below HLOW.out)
 obtain ⟨_, _, _, _, g4⟩ := zbg HBX.out.1.out
 obtain ⟨f0, f1, f2, f3, f4⟩ := zbg HBX.out.2.1.out
 obtain ⟨x0, x1, _, _, _⟩ := zbg HN1.out
 obtain ⟨y0, y1, _, _, _⟩ := zbg HN2.out
 have hlk := HLK.out w6 HLOW.out
 have hlk1 := fun k1 => HLK.out (w6.drewN k1) (pw_below_drewN HLOW.out _)
 have hlk2 := fun k1 k2 => HLK.out ((w6.drewN k1).drewN k2) (pw_below_drewN (pw_below_drewN HLOW.out _) _)
 clear HLK HW HC1 HC2 HL1 HL2 HX HY HN1 HN2
 --ARMS
 obtain ⟨hg, hhg⟩ : ∃ hg, zbk.f b = some hg := by unfold zbk.f; split <;> exact ⟨_, rfl⟩
 obtain ⟨ik, hik⟩ : ∃ ik, zbt.f kd 0 3 = some ik := by unfold zbt.f; split <;> exact ⟨_, rfl⟩
 obtain ⟨im, him⟩ : ∃ im, zbt.f mx 1 9 = some im := by unfold zbt.f; split <;> exact ⟨_, rfl⟩
 have HHG := Aside0.mk hhg
 have HIK := Aside0.mk hik
 have HIM := Aside0.mk him
 clear hhg hik him
 generalize hge : guardE gd = ge
 refine if e1 : is = true then ?p1 else ?q1
 case' p1 =>
  subst e1
  refine if e2 : has = true then ?p2 else ?q2
  case' p2 =>
   subst e2
   refine if hs : s1 = s2 then ?p26 else ?q26
   case' p26 =>
    have hsb : (s1 == s2) = true := beq_iff_eq.mpr hs
    have hsc : (s1 != s2) = false := bne_eq_false_iff_eq.mpr hs
    have hsH := Aside0.mk hs
    clear hs
    refine if n3 : a = 2 then ?p25 else ?q25
    case' p25 =>
     have n3b : (a == 2) = true := beq_iff_eq.mpr n3
     have n3c : (a != 2) = false := bne_eq_false_iff_eq.mpr n3
     have n3H := Aside0.mk n3
     clear n3
     have hv : gfV true true s1 s2 ⟨fr, tt, kd, mx, gd⟩ a b os = 17 := by simp [gfV, fE1, mE, gE, hge, hsH.out, n3H.out]
    case' q25 =>
     have n3b : (a == 2) = false := beq_eq_false_iff_ne.mpr n3
     have n3c : (a != 2) = true := bne_iff_ne.mpr n3
     have n3H := Aside0.mk n3
     clear n3
     refine if n4 : a = 9 then ?p24 else ?q24
     case' p24 =>
      have n4b : (a == 9) = true := beq_iff_eq.mpr n4
      have n4c : (a != 9) = false := bne_eq_false_iff_eq.mpr n4
      have n4H := Aside0.mk n4
      clear n4
      have hv : gfV true true s1 s2 ⟨fr, tt, kd, mx, gd⟩ a b os = 17 := by simp [gfV, fE1, mE, gE, hge, hsH.out, n3H.out, n4H.out]
     case' q24 =>
      have n4b : (a == 9) = false := beq_eq_false_iff_ne.mpr n4
      have n4c : (a != 9) = true := bne_iff_ne.mpr n4
      have n4H := Aside0.mk n4
      clear n4
      refine if n5 : b = 1 then ?p23 else ?q23
      case' p23 =>
       have n5b : (b == 1) = true := beq_iff_eq.mpr n5
       have n5c : (b != 1) = false := bne_eq_false_iff_eq.mpr n5
       have n5H := Aside0.mk n5
       clear n5
       have hv : gfV true true s1 s2 ⟨fr, tt, kd, mx, gd⟩ a b os = 17 := by simp [gfV, fE1, mE, gE, hge, hsH.out, n3H.out, n4H.out, n5H.out]
      case' q23 =>
       have n5b : (b == 1) = false := beq_eq_false_iff_ne.mpr n5
       have n5c : (b != 1) = true := bne_iff_ne.mpr n5
       have n5H := Aside0.mk n5
       clear n5
       refine if e3 : hg = true then ?p3 else ?q3
       case' p3 =>
        subst e3
        have hh := hangs_true HHG.out
        have hh' : (if b = 8 then (17 : Int) else if b = 9 then 17 else if kd < 0 then 17 else if 3 < kd then 17 else if kd = 0 then mE ⟨fr, tt, kd, mx, gd⟩ else if a = 5 then (if os < 2 then 17 else mE ⟨fr, tt, kd, mx, gd⟩) else 17) = 17 := by rcases hh with h | h <;> simp [h]
        have hv : gfV true true s1 s2 ⟨fr, tt, kd, mx, gd⟩ a b os = 17 := by simp only [gfV, fE1, hsH.out, n3H.out, n4H.out, n5H.out, if_true, if_false, Bool.true_eq_false, hh']
       case' q3 =>
        have e3 := Bool.eq_false_iff.mpr e3
        subst e3
        obtain ⟨h8, h9⟩ := hangs_false HHG.out
        refine if e4 : ik = true then ?p4 else ?q4
        case' p4 =>
         subst e4
         have hk := in_true HIK.out
         refine if q0 : kd = 0 then ?p22 else ?q22
         case' p22 =>
          subst q0
          refine if m1 : mx = 0 then ?p6 else ?q6
          case' p6 =>
           subst m1
           refine if g2 : gd.toList = ([] : List UInt8) then ?p5 else ?q5
           case' p5 =>
            have g2b : (gd.toList == ([] : List UInt8)) = true := beq_iff_eq.mpr g2
            have g2c : (gd.toList != ([] : List UInt8)) = false := bne_eq_false_iff_eq.mpr g2
            have g2H := Aside0.mk g2
            clear g2
            have hv : gfV true true s1 s2 ⟨fr, tt, 0, 0, gd⟩ a b os = 0 := by simp [gfV, fE1, mE, gE, hge, hsH.out, n3H.out, n4H.out, n5H.out, h8, h9, g2H.out]
           case' q5 =>
            have g2b : (gd.toList == ([] : List UInt8)) = false := beq_eq_false_iff_ne.mpr g2
            have g2c : (gd.toList != ([] : List UInt8)) = true := bne_iff_ne.mpr g2
            have g2H := Aside0.mk g2
            clear g2
            have hv : gfV true true s1 s2 ⟨fr, tt, 0, 0, gd⟩ a b os = 18 := by simp [gfV, fE1, mE, gE, hge, hsH.out, n3H.out, n4H.out, n5H.out, h8, h9, g2H.out]
          case' q6 =>
           have m1b : (mx == 0) = false := beq_eq_false_iff_ne.mpr m1
           have m1c : (mx != 0) = true := bne_iff_ne.mpr m1
           have hv : gfV true true s1 s2 ⟨fr, tt, 0, mx, gd⟩ a b os = 17 := by simp [gfV, fE1, mE, gE, hge, hsH.out, n3H.out, n4H.out, n5H.out, h8, h9, m1]
         case' q22 =>
          have q0b : (kd == 0) = false := beq_eq_false_iff_ne.mpr q0
          have q0c : (kd != 0) = true := bne_iff_ne.mpr q0
          refine if q1 : kd = 1 then ?p21 else ?q21
          case' p21 =>
           subst q1
           refine if a5 : a = 5 then ?p10 else ?q10
           case' p10 =>
            have a5b : (a == 5) = true := beq_iff_eq.mpr a5
            have a5c : (a != 5) = false := bne_eq_false_iff_eq.mpr a5
            have a5H := Aside0.mk a5
            clear a5
            refine if o2 : os < 2 then ?p9 else ?q9
            case' p9 =>
             have o1 : decide ((os : Int) < 2) = true := decide_eq_true (by omega)
             have hv : gfV true true s1 s2 ⟨fr, tt, 1, mx, gd⟩ a b os = 17 := by simp [gfV, fE1, mE, gE, hge, hsH.out, n3H.out, n4H.out, n5H.out, h8, h9, q0, a5H.out, show os < 2 by omega]
            case' q9 =>
             have o1 : decide ((os : Int) < 2) = false := decide_eq_false (by omega)
             refine if m1 : mx = 0 then ?p8 else ?q8
             case' p8 =>
              subst m1
              refine if g2 : gd.toList = ([] : List UInt8) then ?p7 else ?q7
              case' p7 =>
               have g2b : (gd.toList == ([] : List UInt8)) = true := beq_iff_eq.mpr g2
               have g2c : (gd.toList != ([] : List UInt8)) = false := bne_eq_false_iff_eq.mpr g2
               have g2H := Aside0.mk g2
               clear g2
               have hv : gfV true true s1 s2 ⟨fr, tt, 1, 0, gd⟩ a b os = 0 := by simp [gfV, fE1, mE, gE, hge, hsH.out, n3H.out, n4H.out, n5H.out, h8, h9, q0, a5H.out, show ¬ os < 2 by omega, g2H.out]
              case' q7 =>
               have g2b : (gd.toList == ([] : List UInt8)) = false := beq_eq_false_iff_ne.mpr g2
               have g2c : (gd.toList != ([] : List UInt8)) = true := bne_iff_ne.mpr g2
               have g2H := Aside0.mk g2
               clear g2
               have hv : gfV true true s1 s2 ⟨fr, tt, 1, 0, gd⟩ a b os = 18 := by simp [gfV, fE1, mE, gE, hge, hsH.out, n3H.out, n4H.out, n5H.out, h8, h9, q0, a5H.out, show ¬ os < 2 by omega, g2H.out]
             case' q8 =>
              have m1b : (mx == 0) = false := beq_eq_false_iff_ne.mpr m1
              have m1c : (mx != 0) = true := bne_iff_ne.mpr m1
              have hv : gfV true true s1 s2 ⟨fr, tt, 1, mx, gd⟩ a b os = 17 := by simp [gfV, fE1, mE, gE, hge, hsH.out, n3H.out, n4H.out, n5H.out, h8, h9, q0, a5H.out, show ¬ os < 2 by omega, m1]
           case' q10 =>
            have a5b : (a == 5) = false := beq_eq_false_iff_ne.mpr a5
            have a5c : (a != 5) = true := bne_iff_ne.mpr a5
            have a5H := Aside0.mk a5
            clear a5
            have hv : gfV true true s1 s2 ⟨fr, tt, 1, mx, gd⟩ a b os = 17 := by simp [gfV, fE1, mE, gE, hge, hsH.out, n3H.out, n4H.out, n5H.out, h8, h9, q0, a5H.out]
          case' q21 =>
           have q1b : (kd == 1) = false := beq_eq_false_iff_ne.mpr q1
           have q1c : (kd != 1) = true := bne_iff_ne.mpr q1
           refine if q2 : kd = 2 then ?p20 else ?q20
           case' p20 =>
            subst q2
            refine if a5 : a = 5 then ?p14 else ?q14
            case' p14 =>
             have a5b : (a == 5) = true := beq_iff_eq.mpr a5
             have a5c : (a != 5) = false := bne_eq_false_iff_eq.mpr a5
             have a5H := Aside0.mk a5
             clear a5
             refine if o2 : os < 2 then ?p13 else ?q13
             case' p13 =>
              have o1 : decide ((os : Int) < 2) = true := decide_eq_true (by omega)
              have hv : gfV true true s1 s2 ⟨fr, tt, 2, mx, gd⟩ a b os = 17 := by simp [gfV, fE1, mE, gE, hge, hsH.out, n3H.out, n4H.out, n5H.out, h8, h9, q0, q1, a5H.out, show os < 2 by omega]
             case' q13 =>
              have o1 : decide ((os : Int) < 2) = false := decide_eq_false (by omega)
              refine if m1 : mx = 0 then ?p12 else ?q12
              case' p12 =>
               subst m1
               refine if g1 : ge = 0 then ?p11 else ?q11
               case' p11 =>
                subst g1
                have hv : gfV true true s1 s2 ⟨fr, tt, 2, 0, gd⟩ a b os = 0 := by simp [gfV, fE1, mE, gE, hge, hsH.out, n3H.out, n4H.out, n5H.out, h8, h9, q0, q1, a5H.out, show ¬ os < 2 by omega]
               case' q11 =>
                have g1b : (ge == 0) = false := beq_eq_false_iff_ne.mpr g1
                have g1c : (ge != 0) = true := bne_iff_ne.mpr g1
                have hv : gfV true true s1 s2 ⟨fr, tt, 2, 0, gd⟩ a b os = 18 := by simp [gfV, fE1, mE, gE, hge, hsH.out, n3H.out, n4H.out, n5H.out, h8, h9, q0, q1, a5H.out, show ¬ os < 2 by omega, g1]
              case' q12 =>
               have m1b : (mx == 0) = false := beq_eq_false_iff_ne.mpr m1
               have m1c : (mx != 0) = true := bne_iff_ne.mpr m1
               have hv : gfV true true s1 s2 ⟨fr, tt, 2, mx, gd⟩ a b os = 17 := by simp [gfV, fE1, mE, gE, hge, hsH.out, n3H.out, n4H.out, n5H.out, h8, h9, q0, q1, a5H.out, show ¬ os < 2 by omega, m1]
            case' q14 =>
             have a5b : (a == 5) = false := beq_eq_false_iff_ne.mpr a5
             have a5c : (a != 5) = true := bne_iff_ne.mpr a5
             have a5H := Aside0.mk a5
             clear a5
             have hv : gfV true true s1 s2 ⟨fr, tt, 2, mx, gd⟩ a b os = 17 := by simp [gfV, fE1, mE, gE, hge, hsH.out, n3H.out, n4H.out, n5H.out, h8, h9, q0, q1, a5H.out]
           case' q20 =>
            have q2b : (kd == 2) = false := beq_eq_false_iff_ne.mpr q2
            have q2c : (kd != 2) = true := bne_iff_ne.mpr q2
            refine if q3 : kd = 3 then ?p19 else ?q19
            case' p19 =>
             subst q3
             refine if a5 : a = 5 then ?p18 else ?q18
             case' p18 =>
              have a5b : (a == 5) = true := beq_iff_eq.mpr a5
              have a5c : (a != 5) = false := bne_eq_false_iff_eq.mpr a5
              have a5H := Aside0.mk a5
              clear a5
              refine if o2 : os < 2 then ?p17 else ?q17
              case' p17 =>
               have o1 : decide ((os : Int) < 2) = true := decide_eq_true (by omega)
               have hv : gfV true true s1 s2 ⟨fr, tt, 3, mx, gd⟩ a b os = 17 := by simp [gfV, fE1, mE, gE, hge, hsH.out, n3H.out, n4H.out, n5H.out, h8, h9, q0, q1, q2, a5H.out, show os < 2 by omega]
              case' q17 =>
               have o1 : decide ((os : Int) < 2) = false := decide_eq_false (by omega)
               refine if e15 : im = true then ?p15 else ?q15
               case' p15 =>
                subst e15
                have hm := in_true HIM.out
                refine if g1 : ge = 0 then ?p16 else ?q16
                case' p16 =>
                 subst g1
                 have hv : gfV true true s1 s2 ⟨fr, tt, 3, mx, gd⟩ a b os = 0 := by simp [gfV, fE1, mE, gE, hge, hsH.out, n3H.out, n4H.out, n5H.out, h8, h9, q0, q1, q2, a5H.out, show ¬ os < 2 by omega, show ¬ mx < 1 by omega, show ¬ 9 < mx by omega]
                case' q16 =>
                 have g1b : (ge == 0) = false := beq_eq_false_iff_ne.mpr g1
                 have g1c : (ge != 0) = true := bne_iff_ne.mpr g1
                 have hv : gfV true true s1 s2 ⟨fr, tt, 3, mx, gd⟩ a b os = 18 := by simp [gfV, fE1, mE, gE, hge, hsH.out, n3H.out, n4H.out, n5H.out, h8, h9, q0, q1, q2, a5H.out, show ¬ os < 2 by omega, show ¬ mx < 1 by omega, show ¬ 9 < mx by omega, g1]
               case' q15 =>
                have e15 := Bool.eq_false_iff.mpr e15
                subst e15
                have hm := in_false HIM.out
                have hm' : mx < 1 ∨ 9 < mx := by omega
                have hm'' : (if mx < 1 then (17 : Int) else if 9 < mx then 17 else if ge = 0 then 0 else 18) = 17 := by rcases hm' with h | h <;> simp [h]
                have hv : gfV true true s1 s2 ⟨fr, tt, 3, mx, gd⟩ a b os = 17 := by simp [gfV, fE1, mE, gE, hge, hsH.out, n3H.out, n4H.out, n5H.out, h8, h9, q0, q1, q2, a5H.out, show ¬ os < 2 by omega, hm'']
             case' q18 =>
              have a5b : (a == 5) = false := beq_eq_false_iff_ne.mpr a5
              have a5c : (a != 5) = true := bne_iff_ne.mpr a5
              have a5H := Aside0.mk a5
              clear a5
              have hv : gfV true true s1 s2 ⟨fr, tt, 3, mx, gd⟩ a b os = 17 := by simp [gfV, fE1, mE, gE, hge, hsH.out, n3H.out, n4H.out, n5H.out, h8, h9, q0, q1, q2, a5H.out]
            case' q19 =>
             have q3b : (kd == 3) = false := beq_eq_false_iff_ne.mpr q3
             have q3c : (kd != 3) = true := bne_iff_ne.mpr q3
             exfalso
             omega
        case' q4 =>
         have e4 := Bool.eq_false_iff.mpr e4
         subst e4
         have hk := in_false HIK.out
         have hk' : (if kd < 0 then (17 : Int) else if 3 < kd then 17 else if kd = 0 then mE ⟨fr, tt, kd, mx, gd⟩ else if a = 5 then (if os < 2 then 17 else mE ⟨fr, tt, kd, mx, gd⟩) else 17) = 17 := by rcases hk with h | h <;> simp [h]
         have hv : gfV true true s1 s2 ⟨fr, tt, kd, mx, gd⟩ a b os = 17 := by simp only [gfV, fE1, hsH.out, n3H.out, n4H.out, n5H.out, h8, h9, if_true, if_false, Bool.true_eq_false, hk']
   case' q26 =>
    have hsb : (s1 == s2) = false := beq_eq_false_iff_ne.mpr hs
    have hsc : (s1 != s2) = true := bne_iff_ne.mpr hs
    have hsH := Aside0.mk hs
    clear hs
    have hv : gfV true true s1 s2 ⟨fr, tt, kd, mx, gd⟩ a b os = 17 := by simp [gfV, fE1, mE, gE, hge, hsH.out]
  case' q2 =>
   have e2 := Bool.eq_false_iff.mpr e2
   subst e2
   have hv : gfV true false s1 s2 ⟨fr, tt, kd, mx, gd⟩ a b os = 17 := by simp [gfV, fE1, mE, gE, hge]
 case' q1 =>
  have e1 := Bool.eq_false_iff.mpr e1
  subst e1
  have hv : gfV false has s1 s2 ⟨fr, tt, kd, mx, gd⟩ a b os = 17 := by simp [gfV, fE1, mE, gE, hge]
 all_goals
  go_wp2_with (first | (go_at_call 43; (with_reducible refine (zbk.calls _ _ _ HHG.out).mono ?_); rintro e w7 ⟨rfl, ⟨nd, rfl⟩⟩) | (go_at_call 21; (with_reducible refine (zbt.calls _ 0 3 _ _ HIK.out).mono ?_); rintro e w7 ⟨rfl, ⟨nd, rfl⟩⟩) | (go_at_call 21; (with_reducible refine (zbt.calls _ 1 9 _ _ HIM.out).mono ?_); rintro e w7 ⟨rfl, ⟨nd, rfl⟩⟩) | (go_at_call 46; (refine (zbi gd _ (Wrong.below HWR.out (by repeat (first | exact Below.refl _ _ | apply pw_below_drewN | apply below_drew1)))).mono ?_); rintro e w8 ⟨v8, rfl, hb8⟩; rw [hge]; have n0 := Aside0.mk (below_step (by repeat (first | exact HLOW.out | apply pw_below_drewN | apply below_drew1)) hb8); clear HLOW; have HLOW := n0; clear n0 hb8))
  go_ret
  exact ⟨congrArg (fun z => Ending.returned (Value.int .i64 z)) hv.symm, by repeat (first | exact HLOW.out | apply pw_below_drewN | apply below_drew1)⟩
--TAIL
end Go.Proofs.YtcaegaljhogbjaaGreatDoor.Gr
