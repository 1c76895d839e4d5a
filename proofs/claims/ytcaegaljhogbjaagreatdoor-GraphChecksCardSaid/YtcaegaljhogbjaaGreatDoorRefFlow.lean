/- The reference's check of a flow, walked by hand: its contract in the form that the kit's printer gives its own. -/
import Derived.Test.YtcaegaljhogbjaaGreatDoorGraphSpec
import Derived.Deep.RegionHeld3
set_option linter.unusedVariables false
set_option linter.unusedSimpArgs false
namespace Go.Proofs.YtcaegaljhogbjaaGreatDoor.Gr
open Go.RowKit Go.Lib Go.Sort Go.Proofs.YtcaegaljhogbjaaGreatDoorW.PrintWords Go.Proofs.YtcaegaljhogbjaaGreatDoorW.PrintLast Go.Proofs.YtcaegaljhogbjaaGreatDoorW.PrintMore Go.Proofs.YtcaegaljhogbjaaGreatDoor.Y Go.Proofs.YtcaegaljhogbjaaGreatDoor.Gd

theorem Bx.conj {w W : World} {b : Nat} {s : ByteArray} {v1 v2 : Value} {T U : TypeId} {fr tt kd mx : Int} {gd : ByteArray} (h : Bx w b #[.string s, v1, v2] T #[.int .i64 fr, .int .i64 tt, .int .i64 kd, .int .i64 mx, .string gd] U W) :
  W.cell? ⟨b, 0, none⟩ = some (.string s) ∧ W.cell? ⟨b, 1, none⟩ = some v1 ∧ W.cell? ⟨b, 2, none⟩ = some v2 ∧ W.cell? ⟨b + 1, 0, none⟩ = some (.int .i64 fr) ∧ W.cell? ⟨b + 1, 1, none⟩ = some (.int .i64 tt) ∧ Bx w b #[.string s, v1, v2] T #[.int .i64 fr, .int .i64 tt, .int .i64 kd, .int .i64 mx, .string gd] U W := by
 obtain ⟨d0, d1, d2⟩ := zbh h.1.out
 obtain ⟨c0, c1, _⟩ := zbg h.2.1.out
 exact ⟨d0, d1, d2, c0, c1, h⟩
set_option maxHeartbeats 8000000 in
set_option maxRecDepth 100000 in
theorem rflow_calls (k : Nat) (a0 : ByteArray) (A1 : Option Addr) (c1 : Nat) (l1 : List S38) (A2 : Option Addr) (c2 : Nat) (l2 : List S40) (n : Int) (w : World)
  (hC1 : Kd.C k38 w A1 l1.length l1) (hc1 : l1.length ≤ c1) (hC2 : Kd.C k40 w A2 l2.length l2) (hc2 : l2.length ≤ c2)
  (p : 0 ≤ wrap64 (n - 1)) (q : wrap64 (n - 1) < (l2.length : Int)) (a b : Int) (os : List Int)
  (ha : zak.f a0 l1 l2 (zbb l2 (wrap64 (n - 1))).f0 = some a) (hb : zak.f a0 l1 l2 (zbb l2 (wrap64 (n - 1))).f1 = some b)
  (ho : zaf.f k a0 l1 l2 (zbb l2 (wrap64 (n - 1))).f0 = some os) :
  Calls Tryz.prog 29 #[.agg #[.string a0, .slice A1 l1.length c1, .slice A2 l2.length c2], .int .i64 n] w fun e w' => e = .returned (.int .i64 (fE (scopeAt l1 (zbb l2 (wrap64 (n - 1))).f0) (scopeAt l1 (zbb l2 (wrap64 (n - 1))).f1) (zbb l2 (wrap64 (n - 1))) a b os.length)) ∧ Below w.heap.size w w' := by
 have hjw : (IntKind.i64.wrap (n - 1)) = wrap64 (n - 1) := i64_w _
 generalize wrap64 (n - 1) = j at *
 obtain ⟨ad, e, hx0, hx1, hx2, hx3, hx4⟩ := zbd hC2 j p q
 subst e
 have HC1 := Aside0.mk hC1
 have HC2 := Aside0.mk hC2
 have HLE := Aside0.mk hc1
 have HLE2 := Aside0.mk hc2
 have hbl := World.block_lt_of_cell? w _ hx0
 have hne : (ad.add (j.toNat * 5)).block ≠ w.heap.size := Nat.ne_of_lt hbl
 have hne1 : (ad.add (j.toNat * 5)).block ≠ w.heap.size + 1 := Nat.ne_of_lt (Nat.lt_succ_of_lt hbl)
 have p' := eq_true p
 have q' := eq_true q
 generalize hx : zbb l2 j = x at *
 obtain ⟨fr, tt, kd, mx, gd⟩ := x
 dsimp only at hx0 hx1 hx2 hx3 hx4 ha hb ho ⊢
 have HA := Aside0.mk ha
 have HB := Aside0.mk hb
 have HO := Aside0.mk ho
 have HX := Aside0.mk hx
 clear hC1 hC2 hc1 hc2 ha hb ho hx
 go_enter Tryz.func29, Tryz.ntmps29
 go_wp2
 have HF := Bx.new w #[.string a0, .slice A1 l1.length c1, .slice (some ad) l2.length c2] 25 #[.int .i64 fr, .int .i64 tt, .int .i64 kd, .int .i64 mx, .string gd] 40
 generalize hw : (w.alloc (.cells #[.string a0, .slice A1 l1.length c1, .slice (some ad) l2.length c2] 25)).alloc (.cells #[.int .i64 fr, .int .i64 tt, .int .i64 kd, .int .i64 mx, .string gd] 40) = wc at *
 clear hw hx0 hx1 hx2 hx3 hx4 hbl hne hne1
 go_region_held3 (fun W => W.cell? ⟨w.heap.size, 0, none⟩ = some (.string a0) ∧ W.cell? ⟨w.heap.size, 1, none⟩ = some (.slice A1 l1.length c1) ∧ W.cell? ⟨w.heap.size, 2, none⟩ = some (.slice (some ad) l2.length c2) ∧ W.cell? ⟨w.heap.size + 1, 0, none⟩ = some (.int .i64 fr) ∧ W.cell? ⟨w.heap.size + 1, 1, none⟩ = some (.int .i64 tt) ∧ Bx w w.heap.size #[.string a0, .slice A1 l1.length c1, .slice (some ad) l2.length c2] 25 #[.int .i64 fr, .int .i64 tt, .int .i64 kd, .int .i64 mx, .string gd] 40 W)
  (first | exact Bx.conj (by with_reducible assumption) | exact Bx.conj (Bx.drew (by with_reducible assumption)))
  (first | (go_at_call 48; (with_reducible refine (zak.calls a0 _ _ l1 _ _ l2 fr a _ ?s1 ?s2 ?s3 ?s4 HA.out).mono ?_); (case s1 => exact (Kd.C_below HC1.out (Bx.low (by first | (with_reducible assumption) | exact Bx.drew (by with_reducible assumption))))); (case s2 => exact HLE.out); (case s3 => exact (Kd.C_below HC2.out (Bx.low (by first | (with_reducible assumption) | exact Bx.drew (by with_reducible assumption))))); (case s4 => exact HLE2.out); rintro e w1 ⟨rfl, hb1⟩; have hB1 := Bx.below (by first | (with_reducible assumption) | exact Bx.drew (by with_reducible assumption)) hb1; clear hb1) | (go_at_call 48; (with_reducible refine (zak.calls a0 _ _ l1 _ _ l2 tt b _ ?s1 ?s2 ?s3 ?s4 HB.out).mono ?_); (case s1 => exact (Kd.C_below HC1.out (Bx.low (by first | (with_reducible assumption) | exact Bx.drew (by with_reducible assumption))))); (case s2 => exact HLE.out); (case s3 => exact (Kd.C_below HC2.out (Bx.low (by first | (with_reducible assumption) | exact Bx.drew (by with_reducible assumption))))); (case s4 => exact HLE2.out); rintro e w2 ⟨rfl, hb2⟩; have hB2 := Bx.below (by first | (with_reducible assumption) | exact Bx.drew (by with_reducible assumption)) hb2; clear hb2))
 have HB2 := Aside0.mk hB2
 have HLOW := Aside0.mk hB2.low
 obtain ⟨d0, d1, d2⟩ := zbh HB2.out.1.out
 obtain ⟨c0, c1', c2', c3, c4⟩ := zbg HB2.out.2.1.out
 generalize hge : guardE gd = ge
 generalize hsc1 : scopeAt l1 fr = s1
 generalize hsc2 : scopeAt l1 tt = s2
 have HQ1 := Aside0.mk hsc1
 have HQ2 := Aside0.mk hsc2
 --ARMS
 refine if n1 : a = 0 then ?p29 else ?q29
 case' p29 =>
  have n1b : (a == 0) = true := beq_iff_eq.mpr n1
  have n1c : (a != 0) = false := bne_eq_false_iff_eq.mpr n1
  have n1H := Aside0.mk n1
  clear n1
  have hv : fE (scopeAt l1 fr) (scopeAt l1 tt) ⟨fr, tt, kd, mx, gd⟩ a b os.length = 17 := by simp [fE, mE, gE, hge, HQ1.out, HQ2.out, n1H.out]
 case' q29 =>
  have n1b : (a == 0) = false := beq_eq_false_iff_ne.mpr n1
  have n1c : (a != 0) = true := bne_iff_ne.mpr n1
  have n1H := Aside0.mk n1
  clear n1
  refine if n2 : b = 0 then ?p28 else ?q28
  case' p28 =>
   have n2b : (b == 0) = true := beq_iff_eq.mpr n2
   have n2c : (b != 0) = false := bne_eq_false_iff_eq.mpr n2
   have n2H := Aside0.mk n2
   clear n2
   have hv : fE (scopeAt l1 fr) (scopeAt l1 tt) ⟨fr, tt, kd, mx, gd⟩ a b os.length = 17 := by simp [fE, mE, gE, hge, HQ1.out, HQ2.out, n1H.out, n2H.out]
  case' q28 =>
   have n2b : (b == 0) = false := beq_eq_false_iff_ne.mpr n2
   have n2c : (b != 0) = true := bne_iff_ne.mpr n2
   have n2H := Aside0.mk n2
   clear n2
   obtain ⟨pa, qa⟩ := kind_pos HA.out n1H.out
   obtain ⟨pb, qb⟩ := kind_pos HB.out n2H.out
   have hwa : IntKind.i64.wrap (fr - 1) = wrap64 (fr - 1) := i64_w _
   have hwb : IntKind.i64.wrap (tt - 1) = wrap64 (tt - 1) := i64_w _
   unfold scopeAt at hsc1 hsc2
   generalize wrap64 (fr - 1) = ja at *
   generalize wrap64 (tt - 1) = jb at *
   obtain ⟨ad1, e1, u0, u1, u2, u3, u4⟩ := zbc HC1.out ja pa qa
   subst e1
   obtain ⟨ad2, e2, z0, z1, z2, z3, z4⟩ := zbc HC1.out jb pb qb
   obtain rfl := Option.some.inj e2
   replace u1 := (HLOW.out.cell (World.block_lt_of_cell? w _ u1)).trans u1
   replace z1 := (HLOW.out.cell (World.block_lt_of_cell? w _ z1)).trans z1
   rw [hsc1] at u1
   rw [hsc2] at z1
   clear u0 u2 u3 u4 z0 z2 z3 z4 e2
   replace pa := eq_true pa
   replace qa := eq_true qa
   replace pb := eq_true pb
   replace qb := eq_true qb
   refine if hs : s1 = s2 then ?p27 else ?q27
   case' p27 =>
    have hsb : (s1 == s2) = true := beq_iff_eq.mpr hs
    have hsc : (s1 != s2) = false := bne_eq_false_iff_eq.mpr hs
    have hsH := Aside0.mk hs
    clear hs
    refine if n3 : a = 2 then ?p26 else ?q26
    case' p26 =>
     have n3b : (a == 2) = true := beq_iff_eq.mpr n3
     have n3c : (a != 2) = false := bne_eq_false_iff_eq.mpr n3
     have n3H := Aside0.mk n3
     clear n3
     have hv : fE (scopeAt l1 fr) (scopeAt l1 tt) ⟨fr, tt, kd, mx, gd⟩ a b os.length = 17 := by simp [fE, mE, gE, hge, HQ1.out, HQ2.out, n1H.out, n2H.out, hsH.out, n3H.out]
    case' q26 =>
     have n3b : (a == 2) = false := beq_eq_false_iff_ne.mpr n3
     have n3c : (a != 2) = true := bne_iff_ne.mpr n3
     have n3H := Aside0.mk n3
     clear n3
     refine if n4 : a = 9 then ?p25 else ?q25
     case' p25 =>
      have n4b : (a == 9) = true := beq_iff_eq.mpr n4
      have n4c : (a != 9) = false := bne_eq_false_iff_eq.mpr n4
      have n4H := Aside0.mk n4
      clear n4
      have hv : fE (scopeAt l1 fr) (scopeAt l1 tt) ⟨fr, tt, kd, mx, gd⟩ a b os.length = 17 := by simp [fE, mE, gE, hge, HQ1.out, HQ2.out, n1H.out, n2H.out, hsH.out, n3H.out, n4H.out]
     case' q25 =>
      have n4b : (a == 9) = false := beq_eq_false_iff_ne.mpr n4
      have n4c : (a != 9) = true := bne_iff_ne.mpr n4
      have n4H := Aside0.mk n4
      clear n4
      refine if n5 : b = 1 then ?p24 else ?q24
      case' p24 =>
       have n5b : (b == 1) = true := beq_iff_eq.mpr n5
       have n5c : (b != 1) = false := bne_eq_false_iff_eq.mpr n5
       have n5H := Aside0.mk n5
       clear n5
       have hv : fE (scopeAt l1 fr) (scopeAt l1 tt) ⟨fr, tt, kd, mx, gd⟩ a b os.length = 17 := by simp [fE, mE, gE, hge, HQ1.out, HQ2.out, n1H.out, n2H.out, hsH.out, n3H.out, n4H.out, n5H.out]
      case' q24 =>
       have n5b : (b == 1) = false := beq_eq_false_iff_ne.mpr n5
       have n5c : (b != 1) = true := bne_iff_ne.mpr n5
       have n5H := Aside0.mk n5
       clear n5
       refine if n6 : b = 8 then ?p23 else ?q23
       case' p23 =>
        have n6b : (b == 8) = true := beq_iff_eq.mpr n6
        have n6c : (b != 8) = false := bne_eq_false_iff_eq.mpr n6
        have n6H := Aside0.mk n6
        clear n6
        have hv : fE (scopeAt l1 fr) (scopeAt l1 tt) ⟨fr, tt, kd, mx, gd⟩ a b os.length = 17 := by simp [fE, mE, gE, hge, HQ1.out, HQ2.out, n1H.out, n2H.out, hsH.out, n3H.out, n4H.out, n5H.out, n6H.out]
       case' q23 =>
        have n6b : (b == 8) = false := beq_eq_false_iff_ne.mpr n6
        have n6c : (b != 8) = true := bne_iff_ne.mpr n6
        have n6H := Aside0.mk n6
        clear n6
        refine if n7 : b = 9 then ?p22 else ?q22
        case' p22 =>
         have n7b : (b == 9) = true := beq_iff_eq.mpr n7
         have n7c : (b != 9) = false := bne_eq_false_iff_eq.mpr n7
         have n7H := Aside0.mk n7
         clear n7
         have hv : fE (scopeAt l1 fr) (scopeAt l1 tt) ⟨fr, tt, kd, mx, gd⟩ a b os.length = 17 := by simp [fE, mE, gE, hge, HQ1.out, HQ2.out, n1H.out, n2H.out, hsH.out, n3H.out, n4H.out, n5H.out, n6H.out, n7H.out]
        case' q22 =>
         have n7b : (b == 9) = false := beq_eq_false_iff_ne.mpr n7
         have n7c : (b != 9) = true := bne_iff_ne.mpr n7
         have n7H := Aside0.mk n7
         clear n7
         refine if k0 : kd < 0 then ?p21 else ?q21
         case' p21 =>
          have k0b : decide (kd < 0) = true := decide_eq_true k0
          have hv : fE (scopeAt l1 fr) (scopeAt l1 tt) ⟨fr, tt, kd, mx, gd⟩ a b os.length = 17 := by simp [fE, mE, gE, hge, HQ1.out, HQ2.out, n1H.out, n2H.out, hsH.out, n3H.out, n4H.out, n5H.out, n6H.out, n7H.out, show kd < 0 by omega]
         case' q21 =>
          have k0b : decide (kd < 0) = false := decide_eq_false k0
          refine if k3 : kd > 3 then ?p20 else ?q20
          case' p20 =>
           have k3b : decide (kd > 3) = true := decide_eq_true k3
           have hv : fE (scopeAt l1 fr) (scopeAt l1 tt) ⟨fr, tt, kd, mx, gd⟩ a b os.length = 17 := by simp [fE, mE, gE, hge, HQ1.out, HQ2.out, n1H.out, n2H.out, hsH.out, n3H.out, n4H.out, n5H.out, n6H.out, n7H.out, show ¬ kd < 0 by omega, show 3 < kd by omega]
          case' q20 =>
           have k3b : decide (kd > 3) = false := decide_eq_false k3
           refine if q0 : kd = 0 then ?p19 else ?q19
           case' p19 =>
            subst q0
            refine if m1 : mx = 0 then ?p2 else ?q2
            case' p2 =>
             subst m1
             refine if g2 : gd.toList = ([] : List UInt8) then ?p1 else ?q1
             case' p1 =>
              have g2b : (gd.toList == ([] : List UInt8)) = true := beq_iff_eq.mpr g2
              have g2c : (gd.toList != ([] : List UInt8)) = false := bne_eq_false_iff_eq.mpr g2
              have g2H := Aside0.mk g2
              clear g2
              have hv : fE (scopeAt l1 fr) (scopeAt l1 tt) ⟨fr, tt, 0, 0, gd⟩ a b os.length = 0 := by simp [fE, mE, gE, hge, HQ1.out, HQ2.out, n1H.out, n2H.out, hsH.out, n3H.out, n4H.out, n5H.out, n6H.out, n7H.out, g2H.out]
             case' q1 =>
              have g2b : (gd.toList == ([] : List UInt8)) = false := beq_eq_false_iff_ne.mpr g2
              have g2c : (gd.toList != ([] : List UInt8)) = true := bne_iff_ne.mpr g2
              have g2H := Aside0.mk g2
              clear g2
              have hv : fE (scopeAt l1 fr) (scopeAt l1 tt) ⟨fr, tt, 0, 0, gd⟩ a b os.length = 18 := by simp [fE, mE, gE, hge, HQ1.out, HQ2.out, n1H.out, n2H.out, hsH.out, n3H.out, n4H.out, n5H.out, n6H.out, n7H.out, g2H.out]
            case' q2 =>
             have m1b : (mx == 0) = false := beq_eq_false_iff_ne.mpr m1
             have m1c : (mx != 0) = true := bne_iff_ne.mpr m1
             have hv : fE (scopeAt l1 fr) (scopeAt l1 tt) ⟨fr, tt, 0, mx, gd⟩ a b os.length = 17 := by simp [fE, mE, gE, hge, HQ1.out, HQ2.out, n1H.out, n2H.out, hsH.out, n3H.out, n4H.out, n5H.out, n6H.out, n7H.out, m1]
           case' q19 =>
            have q0b : (kd == 0) = false := beq_eq_false_iff_ne.mpr q0
            have q0c : (kd != 0) = true := bne_iff_ne.mpr q0
            refine if q1 : kd = 1 then ?p18 else ?q18
            case' p18 =>
             subst q1
             refine if a5 : a = 5 then ?p6 else ?q6
             case' p6 =>
              have a5b : (a == 5) = true := beq_iff_eq.mpr a5
              have a5c : (a != 5) = false := bne_eq_false_iff_eq.mpr a5
              have a5H := Aside0.mk a5
              clear a5
              refine if o2 : os.length < 2 then ?p5 else ?q5
              case' p5 =>
               have o1 : decide ((os.length : Int) < 2) = true := decide_eq_true (by omega)
               have hv : fE (scopeAt l1 fr) (scopeAt l1 tt) ⟨fr, tt, 1, mx, gd⟩ a b os.length = 17 := by simp [fE, mE, gE, hge, HQ1.out, HQ2.out, n1H.out, n2H.out, hsH.out, n3H.out, n4H.out, n5H.out, n6H.out, n7H.out, q0, a5H.out, show os.length < 2 by omega]
              case' q5 =>
               have o1 : decide ((os.length : Int) < 2) = false := decide_eq_false (by omega)
               refine if m1 : mx = 0 then ?p4 else ?q4
               case' p4 =>
                subst m1
                refine if g2 : gd.toList = ([] : List UInt8) then ?p3 else ?q3
                case' p3 =>
                 have g2b : (gd.toList == ([] : List UInt8)) = true := beq_iff_eq.mpr g2
                 have g2c : (gd.toList != ([] : List UInt8)) = false := bne_eq_false_iff_eq.mpr g2
                 have g2H := Aside0.mk g2
                 clear g2
                 have hv : fE (scopeAt l1 fr) (scopeAt l1 tt) ⟨fr, tt, 1, 0, gd⟩ a b os.length = 0 := by simp [fE, mE, gE, hge, HQ1.out, HQ2.out, n1H.out, n2H.out, hsH.out, n3H.out, n4H.out, n5H.out, n6H.out, n7H.out, q0, a5H.out, show ¬ os.length < 2 by omega, g2H.out]
                case' q3 =>
                 have g2b : (gd.toList == ([] : List UInt8)) = false := beq_eq_false_iff_ne.mpr g2
                 have g2c : (gd.toList != ([] : List UInt8)) = true := bne_iff_ne.mpr g2
                 have g2H := Aside0.mk g2
                 clear g2
                 have hv : fE (scopeAt l1 fr) (scopeAt l1 tt) ⟨fr, tt, 1, 0, gd⟩ a b os.length = 18 := by simp [fE, mE, gE, hge, HQ1.out, HQ2.out, n1H.out, n2H.out, hsH.out, n3H.out, n4H.out, n5H.out, n6H.out, n7H.out, q0, a5H.out, show ¬ os.length < 2 by omega, g2H.out]
               case' q4 =>
                have m1b : (mx == 0) = false := beq_eq_false_iff_ne.mpr m1
                have m1c : (mx != 0) = true := bne_iff_ne.mpr m1
                have hv : fE (scopeAt l1 fr) (scopeAt l1 tt) ⟨fr, tt, 1, mx, gd⟩ a b os.length = 17 := by simp [fE, mE, gE, hge, HQ1.out, HQ2.out, n1H.out, n2H.out, hsH.out, n3H.out, n4H.out, n5H.out, n6H.out, n7H.out, q0, a5H.out, show ¬ os.length < 2 by omega, m1]
             case' q6 =>
              have a5b : (a == 5) = false := beq_eq_false_iff_ne.mpr a5
              have a5c : (a != 5) = true := bne_iff_ne.mpr a5
              have a5H := Aside0.mk a5
              clear a5
              have hv : fE (scopeAt l1 fr) (scopeAt l1 tt) ⟨fr, tt, 1, mx, gd⟩ a b os.length = 17 := by simp [fE, mE, gE, hge, HQ1.out, HQ2.out, n1H.out, n2H.out, hsH.out, n3H.out, n4H.out, n5H.out, n6H.out, n7H.out, q0, a5H.out]
            case' q18 =>
             have q1b : (kd == 1) = false := beq_eq_false_iff_ne.mpr q1
             have q1c : (kd != 1) = true := bne_iff_ne.mpr q1
             refine if q2 : kd = 2 then ?p17 else ?q17
             case' p17 =>
              subst q2
              refine if a5 : a = 5 then ?p10 else ?q10
              case' p10 =>
               have a5b : (a == 5) = true := beq_iff_eq.mpr a5
               have a5c : (a != 5) = false := bne_eq_false_iff_eq.mpr a5
               have a5H := Aside0.mk a5
               clear a5
               refine if o2 : os.length < 2 then ?p9 else ?q9
               case' p9 =>
                have o1 : decide ((os.length : Int) < 2) = true := decide_eq_true (by omega)
                have hv : fE (scopeAt l1 fr) (scopeAt l1 tt) ⟨fr, tt, 2, mx, gd⟩ a b os.length = 17 := by simp [fE, mE, gE, hge, HQ1.out, HQ2.out, n1H.out, n2H.out, hsH.out, n3H.out, n4H.out, n5H.out, n6H.out, n7H.out, q0, q1, a5H.out, show os.length < 2 by omega]
               case' q9 =>
                have o1 : decide ((os.length : Int) < 2) = false := decide_eq_false (by omega)
                refine if m1 : mx = 0 then ?p8 else ?q8
                case' p8 =>
                 subst m1
                 refine if g1 : ge = 0 then ?p7 else ?q7
                 case' p7 =>
                  subst g1
                  have hv : fE (scopeAt l1 fr) (scopeAt l1 tt) ⟨fr, tt, 2, 0, gd⟩ a b os.length = 0 := by simp [fE, mE, gE, hge, HQ1.out, HQ2.out, n1H.out, n2H.out, hsH.out, n3H.out, n4H.out, n5H.out, n6H.out, n7H.out, q0, q1, a5H.out, show ¬ os.length < 2 by omega]
                 case' q7 =>
                  have g1b : (ge == 0) = false := beq_eq_false_iff_ne.mpr g1
                  have g1c : (ge != 0) = true := bne_iff_ne.mpr g1
                  have hv : fE (scopeAt l1 fr) (scopeAt l1 tt) ⟨fr, tt, 2, 0, gd⟩ a b os.length = 18 := by simp [fE, mE, gE, hge, HQ1.out, HQ2.out, n1H.out, n2H.out, hsH.out, n3H.out, n4H.out, n5H.out, n6H.out, n7H.out, q0, q1, a5H.out, show ¬ os.length < 2 by omega, g1]
                case' q8 =>
                 have m1b : (mx == 0) = false := beq_eq_false_iff_ne.mpr m1
                 have m1c : (mx != 0) = true := bne_iff_ne.mpr m1
                 have hv : fE (scopeAt l1 fr) (scopeAt l1 tt) ⟨fr, tt, 2, mx, gd⟩ a b os.length = 17 := by simp [fE, mE, gE, hge, HQ1.out, HQ2.out, n1H.out, n2H.out, hsH.out, n3H.out, n4H.out, n5H.out, n6H.out, n7H.out, q0, q1, a5H.out, show ¬ os.length < 2 by omega, m1]
              case' q10 =>
               have a5b : (a == 5) = false := beq_eq_false_iff_ne.mpr a5
               have a5c : (a != 5) = true := bne_iff_ne.mpr a5
               have a5H := Aside0.mk a5
               clear a5
               have hv : fE (scopeAt l1 fr) (scopeAt l1 tt) ⟨fr, tt, 2, mx, gd⟩ a b os.length = 17 := by simp [fE, mE, gE, hge, HQ1.out, HQ2.out, n1H.out, n2H.out, hsH.out, n3H.out, n4H.out, n5H.out, n6H.out, n7H.out, q0, q1, a5H.out]
             case' q17 =>
              have q2b : (kd == 2) = false := beq_eq_false_iff_ne.mpr q2
              have q2c : (kd != 2) = true := bne_iff_ne.mpr q2
              refine if q3 : kd = 3 then ?p16 else ?q16
              case' p16 =>
               subst q3
               refine if a5 : a = 5 then ?p15 else ?q15
               case' p15 =>
                have a5b : (a == 5) = true := beq_iff_eq.mpr a5
                have a5c : (a != 5) = false := bne_eq_false_iff_eq.mpr a5
                have a5H := Aside0.mk a5
                clear a5
                refine if o2 : os.length < 2 then ?p14 else ?q14
                case' p14 =>
                 have o1 : decide ((os.length : Int) < 2) = true := decide_eq_true (by omega)
                 have hv : fE (scopeAt l1 fr) (scopeAt l1 tt) ⟨fr, tt, 3, mx, gd⟩ a b os.length = 17 := by simp [fE, mE, gE, hge, HQ1.out, HQ2.out, n1H.out, n2H.out, hsH.out, n3H.out, n4H.out, n5H.out, n6H.out, n7H.out, q0, q1, q2, a5H.out, show os.length < 2 by omega]
                case' q14 =>
                 have o1 : decide ((os.length : Int) < 2) = false := decide_eq_false (by omega)
                 refine if m2 : mx < 1 then ?p13 else ?q13
                 case' p13 =>
                  have m2b : decide (mx < 1) = true := decide_eq_true m2
                  have hv : fE (scopeAt l1 fr) (scopeAt l1 tt) ⟨fr, tt, 3, mx, gd⟩ a b os.length = 17 := by simp [fE, mE, gE, hge, HQ1.out, HQ2.out, n1H.out, n2H.out, hsH.out, n3H.out, n4H.out, n5H.out, n6H.out, n7H.out, q0, q1, q2, a5H.out, show ¬ os.length < 2 by omega, show mx < 1 by omega]
                 case' q13 =>
                  have m2b : decide (mx < 1) = false := decide_eq_false m2
                  refine if m3 : mx > 9 then ?p12 else ?q12
                  case' p12 =>
                   have m3b : decide (mx > 9) = true := decide_eq_true m3
                   have hv : fE (scopeAt l1 fr) (scopeAt l1 tt) ⟨fr, tt, 3, mx, gd⟩ a b os.length = 17 := by simp [fE, mE, gE, hge, HQ1.out, HQ2.out, n1H.out, n2H.out, hsH.out, n3H.out, n4H.out, n5H.out, n6H.out, n7H.out, q0, q1, q2, a5H.out, show ¬ os.length < 2 by omega, show ¬ mx < 1 by omega, show 9 < mx by omega]
                  case' q12 =>
                   have m3b : decide (mx > 9) = false := decide_eq_false m3
                   refine if g1 : ge = 0 then ?p11 else ?q11
                   case' p11 =>
                    subst g1
                    have hv : fE (scopeAt l1 fr) (scopeAt l1 tt) ⟨fr, tt, 3, mx, gd⟩ a b os.length = 0 := by simp [fE, mE, gE, hge, HQ1.out, HQ2.out, n1H.out, n2H.out, hsH.out, n3H.out, n4H.out, n5H.out, n6H.out, n7H.out, q0, q1, q2, a5H.out, show ¬ os.length < 2 by omega, show ¬ mx < 1 by omega, show ¬ 9 < mx by omega]
                   case' q11 =>
                    have g1b : (ge == 0) = false := beq_eq_false_iff_ne.mpr g1
                    have g1c : (ge != 0) = true := bne_iff_ne.mpr g1
                    have hv : fE (scopeAt l1 fr) (scopeAt l1 tt) ⟨fr, tt, 3, mx, gd⟩ a b os.length = 18 := by simp [fE, mE, gE, hge, HQ1.out, HQ2.out, n1H.out, n2H.out, hsH.out, n3H.out, n4H.out, n5H.out, n6H.out, n7H.out, q0, q1, q2, a5H.out, show ¬ os.length < 2 by omega, show ¬ mx < 1 by omega, show ¬ 9 < mx by omega, g1]
               case' q15 =>
                have a5b : (a == 5) = false := beq_eq_false_iff_ne.mpr a5
                have a5c : (a != 5) = true := bne_iff_ne.mpr a5
                have a5H := Aside0.mk a5
                clear a5
                have hv : fE (scopeAt l1 fr) (scopeAt l1 tt) ⟨fr, tt, 3, mx, gd⟩ a b os.length = 17 := by simp [fE, mE, gE, hge, HQ1.out, HQ2.out, n1H.out, n2H.out, hsH.out, n3H.out, n4H.out, n5H.out, n6H.out, n7H.out, q0, q1, q2, a5H.out]
              case' q16 =>
               have q3b : (kd == 3) = false := beq_eq_false_iff_ne.mpr q3
               have q3c : (kd != 3) = true := bne_iff_ne.mpr q3
               exfalso
               omega
   case' q27 =>
    have hsb : (s1 == s2) = false := beq_eq_false_iff_ne.mpr hs
    have hsc : (s1 != s2) = true := bne_iff_ne.mpr hs
    have hsH := Aside0.mk hs
    clear hs
    have hv : fE (scopeAt l1 fr) (scopeAt l1 tt) ⟨fr, tt, kd, mx, gd⟩ a b os.length = 17 := by simp [fE, mE, gE, hge, HQ1.out, HQ2.out, n1H.out, n2H.out, hsH.out]
 all_goals
  go_wp2_with (first | (go_at_call 13; (with_reducible refine (zaf.calls k a0 _ _ l1 _ _ l2 fr os _ ?s1 ?s2 ?s3 ?s4 HO.out).mono ?_); (case s1 => exact Kd.C_below HC1.out (by repeat (first | exact HLOW.out | apply pw_below_drewN | apply below_drew1))); (case s2 => exact HLE.out); (case s3 => exact Kd.C_below HC2.out (by repeat (first | exact HLOW.out | apply pw_below_drewN | apply below_drew1))); (case s4 => exact HLE2.out); rintro e w3 ⟨v3, rfl, hr3, hb3⟩; obtain ⟨A3, c3, rfl⟩ := Kd.R_slice hr3; have hB3 := Bx.below (by repeat (first | exact HB2.out | apply Bx.drewN | apply Bx.drew)) hb3; clear HLOW; have HLOW := Aside0.mk hB3.low; clear HB2; have HB2 := Aside0.mk hB3; obtain ⟨y0, y1, y2, y3, y4⟩ := zbg HB2.out.2.1.out; clear hB3 hb3 hr3) | (go_at_call 50; (refine (zbj gd _).mono ?_); rintro e w4 ⟨v4, rfl, hb4⟩; rw [hge]; have hB4 := Bx.below (by repeat (first | exact HB2.out | apply Bx.drewN | apply Bx.drew)) hb4; clear HLOW; have HLOW := Aside0.mk hB4.low; clear HB2; have HB2 := Aside0.mk hB4; clear hB4 hb4))
  repeat (go_quiet (fail); try go_wp2_with (first | (go_at_call 13; (with_reducible refine (zaf.calls k a0 _ _ l1 _ _ l2 fr os _ ?s1 ?s2 ?s3 ?s4 HO.out).mono ?_); (case s1 => exact Kd.C_below HC1.out (by repeat (first | exact HLOW.out | apply pw_below_drewN | apply below_drew1))); (case s2 => exact HLE.out); (case s3 => exact Kd.C_below HC2.out (by repeat (first | exact HLOW.out | apply pw_below_drewN | apply below_drew1))); (case s4 => exact HLE2.out); rintro e w3 ⟨v3, rfl, hr3, hb3⟩; obtain ⟨A3, c3, rfl⟩ := Kd.R_slice hr3; have hB3 := Bx.below (by repeat (first | exact HB2.out | apply Bx.drewN | apply Bx.drew)) hb3; clear HLOW; have HLOW := Aside0.mk hB3.low; clear HB2; have HB2 := Aside0.mk hB3; obtain ⟨y0, y1, y2, y3, y4⟩ := zbg HB2.out.2.1.out; clear hB3 hb3 hr3) | (go_at_call 50; (refine (zbj gd _).mono ?_); rintro e w4 ⟨v4, rfl, hb4⟩; rw [hge]; have hB4 := Bx.below (by repeat (first | exact HB2.out | apply Bx.drewN | apply Bx.drew)) hb4; clear HLOW; have HLOW := Aside0.mk hB4.low; clear HB2; have HB2 := Aside0.mk hB4; clear hB4 hb4)))
  go_ret
  exact ⟨congrArg (fun z => Ending.returned (Value.int .i64 z)) hv.symm, by repeat (first | exact HLOW.out | apply pw_below_drewN | apply below_drew1)⟩
--TAIL
end Go.Proofs.YtcaegaljhogbjaaGreatDoor.Gr
namespace Go.Proofs.YtcaegaljhogbjaaGreatDoor.Y
open Go.RowKit Go.Lib Go.Proofs.YtcaegaljhogbjaaGreatDoorW.PrintWords Go.Proofs.YtcaegaljhogbjaaGreatDoorW.PrintLast Go.Proofs.YtcaegaljhogbjaaGreatDoorW.PrintMore Go.Proofs.YtcaegaljhogbjaaGreatDoor.Gr
def zap.f (k : Nat) (a0_0 : ByteArray) (l0_1 : List S38) (l0_2 : List S40) (a1 : Int) : Option Int :=
 if 0 ≤ wrap64 (a1 - 1) ∧ wrap64 (a1 - 1) < (l0_2.length : Int) then
  (zak.f a0_0 l0_1 l0_2 (zbb l0_2 (wrap64 (a1 - 1))).f0).bind fun a => (zak.f a0_0 l0_1 l0_2 (zbb l0_2 (wrap64 (a1 - 1))).f1).bind fun b =>
   (zaf.f k a0_0 l0_1 l0_2 (zbb l0_2 (wrap64 (a1 - 1))).f0).bind fun os =>
    some (fE (scopeAt l0_1 (zbb l0_2 (wrap64 (a1 - 1))).f0) (scopeAt l0_1 (zbb l0_2 (wrap64 (a1 - 1))).f1) (zbb l0_2 (wrap64 (a1 - 1))) a b os.length)
 else none
theorem zap.mono : ∀ a0 a1 a2 a3 k, LeO (zap.f k a0 a1 a2 a3) (zap.f (k + 1) a0 a1 a2 a3) := by
 intro a0 a1 a2 a3 k
 unfold zap.f
 repeat' first
   | (with_reducible exact LeO.refl _)
   | (with_reducible exact LeO.none _)
   | (with_reducible exact zaf.mono _ _ _ _ _)
   | (with_reducible refine LeO.ite ?_ ?_)
   | (with_reducible refine LeO.bind ?_ (fun _ => ?_))
theorem zap.calls (k : Nat) (a0_0 : ByteArray) (A0_1 : Option Addr) (c0_1 : Nat) (l0_1 : List (S38)) (A0_2 : Option Addr) (c0_2 : Nat) (l0_2 : List (S40)) (a1 : Int) (r : Int) (w : World) (hr0_1 : Kd.C k38 w A0_1 l0_1.length l0_1) (hc0_1 : l0_1.length ≤ c0_1) (hr0_2 : Kd.C k40 w A0_2 l0_2.length l0_2) (hc0_2 : l0_2.length ≤ c0_2) (h : zap.f k a0_0 l0_1 l0_2 a1 = some r) :
  Calls Tryz.prog 29 #[.agg #[.string a0_0, .slice A0_1 l0_1.length c0_1, .slice A0_2 l0_2.length c0_2], .int .i64 a1] w fun e w' => e = .returned (.int .i64 r) ∧ Below w.heap.size w w' := by
 unfold zap.f at h
 split at h
 case isFalse => cases h
 rename_i hpq
 obtain ⟨a, ha, h⟩ := Option.bind_eq_some_iff.mp h
 obtain ⟨b, hb, h⟩ := Option.bind_eq_some_iff.mp h
 obtain ⟨os, ho, h⟩ := Option.bind_eq_some_iff.mp h
 cases h
 exact rflow_calls k a0_0 A0_1 c0_1 l0_1 A0_2 c0_2 l0_2 a1 w hr0_1 hc0_1 hr0_2 hc0_2 hpq.1 hpq.2 a b os ha hb ho
end Go.Proofs.YtcaegaljhogbjaaGreatDoor.Y
