/- The reference's check of a flow, walked by hand: its. -/
import Derived.Test.YtcaegaljhogbjaaGreatDoorGraphSpec
set_option linter.unusedSimpArgs false
set_option linter.unusedVariables false
namespace Go.Proofs.Gr
open RowKit Lib Go.Sort PW PL PM Y Gd
theorem Bx.conj{w W:World}{b:Nat}{s:ByteArray}{v1 v2:Value}{T U:TypeId}{fr D kd mx:Int}{gd:ByteArray}(h:Bx w b #[.string s,v1,v2] T #[.int .i64 fr, .int .i64 D, .int .i64 kd, .int .i64 mx, .string gd] U W):
    W.cell? ⟨b,0,none⟩=some (.string s)∧W.cell? ⟨b,1,none⟩=some v1∧W.cell? ⟨b,2,none⟩=some v2∧W.cell? ⟨b+1,0,none⟩=some (.int .i64 fr)∧W.cell? ⟨b+1,1,none⟩=some (.int .i64 D)∧Bx w b #[.string s,v1,v2] T #[.int .i64 fr, .int .i64 D, .int .i64 kd, .int .i64 mx, .string gd] U W:=by
  obtain⟨d0,d1,d2⟩:=qO h.1.out;obtain⟨G,c1,_⟩:=kT h.2.1.out;exact⟨d0,d1,d2,G,c1,h⟩
set_option maxHeartbeats 8000000 in
set_option maxRecDepth 100000 in
theorem DN (k:Nat) (a0:ByteArray) (A1:Option Addr) (c1:Nat) (l1:List S38) (A2:Option Addr) (c2:Nat) (l2:List S40) (n:Int) (w:World)
    (aP:Kd.C k38 w A1 l1.length l1) (aR:l1.length≤c1) (aE:Kd.C k40 w A2 l2.length l2) (aG:l2.length≤c2)
    (p:0≤wrap64 (n-1)) (q:wrap64 (n-1)<(l2.length:Int)) (a b:Int) (Z:List Int)
    (ha:iL.f a0 l1 l2 (iR l2 (wrap64 (n-1))).f0=some a) (hb:iL.f a0 l1 l2 (iR l2 (wrap64 (n-1))).f1=some b)
    (ho:iD.f k a0 l1 l2 (iR l2 (wrap64 (n-1))).f0=some Z):
    Calls Tryz.prog 29 #[.agg #[.string a0, .slice A1 l1.length c1, .slice A2 l2.length c2], .int .i64 n] w fun e w'=>e= .returned (.int .i64 (fE (kJ l1 (iR l2 (wrap64 (n-1))).f0) (kJ l1 (iR l2 (wrap64 (n-1))).f1) (iR l2 (wrap64 (n-1))) a b Z.length))∧Below w.heap.size w w':=by
  have br:(IntKind.i64.wrap (n-1))=wrap64 (n-1):=kZ _;generalize wrap64 (n-1)=j at*;obtain⟨ad,e,aA,aQ,aK,aF,aO⟩:=zI aE j p q;subst e;have ao:=mk0 aP;have ay:=mk0 aE;have az:=mk0 aR;have an:=mk0 aG;have aD:=World.block_lt_of_cell? w _ aA;have be:(ad.add (j.toNat*5)).block≠w.heap.size:=Nat.ne_of_lt aD;have aM:(ad.add (j.toNat*5)).block≠w.heap.size+1:=Nat.ne_of_lt (Nat.lt_succ_of_lt aD);have p':=eq_true p;have q':=eq_true q;generalize hx:iR l2 j=x at*;obtain⟨fr,D,kd,mx,gd⟩:=x;dsimp only at aA aQ aK aF aO ha hb ho⊢;have HA:=mk0 ha;have HB:=mk0 hb;have HO:=mk0 ho;have HX:=mk0 hx;clear aP aE aR aG ha hb ho hx;go_enter Tryz.func29,Tryz.ntmps29;go_wp2;have HF:=Bx.new w #[.string a0, .slice A1 l1.length c1, .slice (some ad) l2.length c2] 25 #[.int .i64 fr, .int .i64 D, .int .i64 kd, .int .i64 mx, .string gd] 40;generalize hw:(w.alloc (.cells #[.string a0, .slice A1 l1.length c1, .slice (some ad) l2.length c2] 25)).alloc (.cells #[.int .i64 fr, .int .i64 D, .int .i64 kd, .int .i64 mx, .string gd] 40)=wc at*;clear hw aA aQ aK aF aO aD be aM
  go_region_held3 (fun W=>W.cell? ⟨w.heap.size,0,none⟩=some (.string a0)∧W.cell? ⟨w.heap.size,1,none⟩=some (.slice A1 l1.length c1)∧W.cell? ⟨w.heap.size,2,none⟩=some (.slice (some ad) l2.length c2)∧W.cell? ⟨w.heap.size+1,0,none⟩=some (.int .i64 fr)∧W.cell? ⟨w.heap.size+1,1,none⟩=some (.int .i64 D)∧Bx w w.heap.size #[.string a0, .slice A1 l1.length c1, .slice (some ad) l2.length c2] 25 #[.int .i64 fr, .int .i64 D, .int .i64 kd, .int .i64 mx, .string gd] 40 W)
    (first|exact Bx.conj (by with_reducible assumption)|exact Bx.conj (Bx.drew (by with_reducible assumption)))
    (first|(go_at_call 48;(with_reducible refine(iL.calls a0 _ _ l1 _ _ l2 fr a _ ?s1 ?s2 ?s3 ?s4 HA.out).mono ?_);(case s1=>exact(Kd.iT ao.out (Bx.low (by first|(with_reducible assumption)|exact Bx.drew (by with_reducible assumption)))));(case s2=>exact az.out);(case s3=>exact(Kd.iT ay.out (Bx.low (by first|(with_reducible assumption)|exact Bx.drew (by with_reducible assumption)))));(case s4=>exact an.out);rintro e w1⟨rfl,aI⟩;have bj:=Bx.below (by first|(with_reducible assumption)|exact Bx.drew (by with_reducible assumption)) aI;clear aI)|(go_at_call 48;(with_reducible refine(iL.calls a0 _ _ l1 _ _ l2 D b _ ?s1 ?s2 ?s3 ?s4 HB.out).mono ?_);(case s1=>exact(Kd.iT ao.out (Bx.low (by first|(with_reducible assumption)|exact Bx.drew (by with_reducible assumption)))));(case s2=>exact az.out);(case s3=>exact(Kd.iT ay.out (Bx.low (by first|(with_reducible assumption)|exact Bx.drew (by with_reducible assumption)))));(case s4=>exact an.out);rintro e w2⟨rfl,aJ⟩;have aH:=Bx.below (by first|(with_reducible assumption)|exact Bx.drew (by with_reducible assumption)) aJ;clear aJ))
  have aj:=mk0 aH;have ag:=mk0 aH.low;obtain⟨_,_,_⟩:=qO aj.out.1.out;obtain⟨_,_,_,c3,_⟩:=kT aj.out.2.1.out;generalize G:guardE gd=ge;generalize aw:kJ l1 fr=s1;generalize ar:kJ l1 D=s2;have U:=mk0 aw;have X:=mk0 ar;refine if n1:a=0 then ?p29 else ?q29
  case' p29=>
    have aZ:(a==0)=true:=beq_iff_eq.mpr n1;have aV:(a !=0)=false:=bne_eq_false_iff_eq.mpr n1;have I:=mk0 n1;clear n1;have hv:fE (kJ l1 fr) (kJ l1 D) ⟨fr,D,kd,mx,gd⟩ a b Z.length=17:=by simp[fE,mE,gE,G,U.out,X.out,I.out]
  case' q29=>
    have aZ:(a==0)=false:=beq_eq_false_iff_ne.mpr n1;have aV:(a !=0)=true:=bne_iff_ne.mpr n1;have I:=mk0 n1;clear n1;refine if n2:b=0 then ?p28 else ?q28
    case' p28=>
      have aT:(b==0)=true:=beq_iff_eq.mpr n2;have a4:(b !=0)=false:=bne_eq_false_iff_eq.mpr n2;have L:=mk0 n2;clear n2;have hv:fE (kJ l1 fr) (kJ l1 D) ⟨fr,D,kd,mx,gd⟩ a b Z.length=17:=by simp[fE,mE,gE,G,U.out,X.out,I.out,L.out]
    case' q28=>
      have aT:(b==0)=false:=beq_eq_false_iff_ne.mpr n2;have a4:(b !=0)=true:=bne_iff_ne.mpr n2;have L:=mk0 n2;clear n2;obtain⟨pa,qa⟩:=Dl HA.out I.out;obtain⟨pb,qb⟩:=Dl HB.out L.out;have bk:IntKind.i64.wrap (fr-1)=wrap64 (fr-1):=kZ _;have bo:IntKind.i64.wrap (D-1)=wrap64 (D-1):=kZ _;unfold kJ at aw ar;generalize wrap64 (fr-1)=ja at*;generalize wrap64 (D-1)=jb at*;obtain⟨_,e1,u0,u1,u2,u3,u4⟩:=tH ao.out ja pa qa;subst e1;obtain⟨_,e2,z0,z1,z2,z3,z4⟩:=tH ao.out jb pb qb;obtain rfl:=Option.some.inj e2;replace u1:=(ag.out.cell (World.block_lt_of_cell? w _ u1)).trans u1;replace z1:=(ag.out.cell (World.block_lt_of_cell? w _ z1)).trans z1;rw[aw]at u1;rw[ar]at z1;clear u0 u2 u3 u4 z0 z2 z3 z4 e2;replace pa:=eq_true pa;replace qa:=eq_true qa;replace pb:=eq_true pb;replace qb:=eq_true qb;refine if hs:s1=s2 then ?p27 else ?q27
      case' p27=>
        have a2:(s1==s2)=true:=beq_iff_eq.mpr hs;have a6:(s1 !=s2)=false:=bne_eq_false_iff_eq.mpr hs;have Y:=mk0 hs;clear hs;refine if n3:a=2 then ?p26 else ?q26
        case' p26=>
          have a8:(a==2)=true:=beq_iff_eq.mpr n3;have a1:(a !=2)=false:=bne_eq_false_iff_eq.mpr n3;have aa:=mk0 n3;clear n3;have hv:fE (kJ l1 fr) (kJ l1 D) ⟨fr,D,kd,mx,gd⟩ a b Z.length=17:=by simp[fE,mE,gE,G,U.out,X.out,I.out,L.out,Y.out,aa.out]
        case' q26=>
          have a8:(a==2)=false:=beq_eq_false_iff_ne.mpr n3;have a1:(a !=2)=true:=bne_iff_ne.mpr n3;have aa:=mk0 n3;clear n3;refine if n4:a=9 then ?p25 else ?q25
          case' p25=>
            have ba:(a==9)=true:=beq_iff_eq.mpr n4;have bf:(a !=9)=false:=bne_eq_false_iff_eq.mpr n4;have ab:=mk0 n4;clear n4;have hv:fE (kJ l1 fr) (kJ l1 D) ⟨fr,D,kd,mx,gd⟩ a b Z.length=17:=by simp[fE,mE,gE,G,U.out,X.out,I.out,L.out,Y.out,aa.out,ab.out]
          case' q25=>
            have ba:(a==9)=false:=beq_eq_false_iff_ne.mpr n4;have bf:(a !=9)=true:=bne_iff_ne.mpr n4;have ab:=mk0 n4;clear n4;refine if n5:b=1 then ?p24 else ?q24
            case' p24=>
              have bd:(b==1)=true:=beq_iff_eq.mpr n5;have a9:(b !=1)=false:=bne_eq_false_iff_eq.mpr n5;have ae:=mk0 n5;clear n5;have hv:fE (kJ l1 fr) (kJ l1 D) ⟨fr,D,kd,mx,gd⟩ a b Z.length=17:=by simp[fE,mE,gE,G,U.out,X.out,I.out,L.out,Y.out,aa.out,ab.out,ae.out]
            case' q24=>
              have bd:(b==1)=false:=beq_eq_false_iff_ne.mpr n5;have a9:(b !=1)=true:=bne_iff_ne.mpr n5;have ae:=mk0 n5;clear n5;refine if n6:b=8 then ?p23 else ?q23
              case' p23=>
                have aW:(b==8)=true:=beq_iff_eq.mpr n6;have a3:(b !=8)=false:=bne_eq_false_iff_eq.mpr n6;have af:=mk0 n6;clear n6;have hv:fE (kJ l1 fr) (kJ l1 D) ⟨fr,D,kd,mx,gd⟩ a b Z.length=17:=by simp[fE,mE,gE,G,U.out,X.out,I.out,L.out,Y.out,aa.out,ab.out,ae.out,af.out]
              case' q23=>
                have aW:(b==8)=false:=beq_eq_false_iff_ne.mpr n6;have a3:(b !=8)=true:=bne_iff_ne.mpr n6;have af:=mk0 n6;clear n6;refine if n7:b=9 then ?p22 else ?q22
                case' p22=>
                  have aS:(b==9)=true:=beq_iff_eq.mpr n7;have bb:(b !=9)=false:=bne_eq_false_iff_eq.mpr n7;have ah:=mk0 n7;clear n7;have hv:fE (kJ l1 fr) (kJ l1 D) ⟨fr,D,kd,mx,gd⟩ a b Z.length=17:=by simp[fE,mE,gE,G,U.out,X.out,I.out,L.out,Y.out,aa.out,ab.out,ae.out,af.out,ah.out]
                case' q22=>
                  have aS:(b==9)=false:=beq_eq_false_iff_ne.mpr n7;have bb:(b !=9)=true:=bne_iff_ne.mpr n7;have ah:=mk0 n7;clear n7;refine if k0:kd<0 then ?p21 else ?q21
                  case' p21=>
                    have aX:decide (kd<0)=true:=decide_eq_true k0;have hv:fE (kJ l1 fr) (kJ l1 D) ⟨fr,D,kd,mx,gd⟩ a b Z.length=17:=by simp[fE,mE,gE,G,U.out,X.out,I.out,L.out,Y.out,aa.out,ab.out,ae.out,af.out,ah.out,show kd<0 by omega]
                  case' q21=>
                    have aX:decide (kd<0)=false:=decide_eq_false k0;refine if k3:kd>3 then ?p20 else ?q20
                    case' p20=>
                      have aU:decide (kd>3)=true:=decide_eq_true k3;have hv:fE (kJ l1 fr) (kJ l1 D) ⟨fr,D,kd,mx,gd⟩ a b Z.length=17:=by simp[fE,mE,gE,G,U.out,X.out,I.out,L.out,Y.out,aa.out,ab.out,ae.out,af.out,ah.out,show ¬kd<0 by omega,show 3<kd by omega]
                    case' q20=>
                      have aU:decide (kd>3)=false:=decide_eq_false k3;refine if q0:kd=0 then ?p19 else ?q19
                      case' p19=>
                        subst q0;refine if m1:mx=0 then ?p2 else ?q2
                        case' p2=>
                          subst m1;refine if g2:gd.toList=([]:List UInt8)then ?p1 else ?q1
                          case' p1=>
                            have aC:(gd.toList==([]:List UInt8))=true:=beq_iff_eq.mpr g2;have aB:(gd.toList !=([]:List UInt8))=false:=bne_eq_false_iff_eq.mpr g2;have al:=mk0 g2;clear g2;have hv:fE (kJ l1 fr) (kJ l1 D) ⟨fr,D,0,0,gd⟩ a b Z.length=0:=by simp[fE,mE,gE,G,U.out,X.out,I.out,L.out,Y.out,aa.out,ab.out,ae.out,af.out,ah.out,al.out]
                          case' q1=>
                            have aC:(gd.toList==([]:List UInt8))=false:=beq_eq_false_iff_ne.mpr g2;have aB:(gd.toList !=([]:List UInt8))=true:=bne_iff_ne.mpr g2;have al:=mk0 g2;clear g2;have hv:fE (kJ l1 fr) (kJ l1 D) ⟨fr,D,0,0,gd⟩ a b Z.length=18:=by simp[fE,mE,gE,G,U.out,X.out,I.out,L.out,Y.out,aa.out,ab.out,ae.out,af.out,ah.out,al.out]
                        case' q2=>
                          have aL:(mx==0)=false:=beq_eq_false_iff_ne.mpr m1;have aN:(mx !=0)=true:=bne_iff_ne.mpr m1;have hv:fE (kJ l1 fr) (kJ l1 D) ⟨fr,D,0,mx,gd⟩ a b Z.length=17:=by simp[fE,mE,gE,G,U.out,X.out,I.out,L.out,Y.out,aa.out,ab.out,ae.out,af.out,ah.out,m1]
                      case' q19=>
                        have bi:(kd==0)=false:=beq_eq_false_iff_ne.mpr q0;have bm:(kd !=0)=true:=bne_iff_ne.mpr q0;refine if q1:kd=1 then ?p18 else ?q18
                        case' p18=>
                          subst q1;refine if a5:a=5 then ?p6 else ?q6
                          case' p6=>
                            have ax:(a==5)=true:=beq_iff_eq.mpr a5;have ap:(a !=5)=false:=bne_eq_false_iff_eq.mpr a5;have ai:=mk0 a5;clear a5;refine if o2:Z.length<2 then ?p5 else ?q5
                            case' p5=>
                              have o1:decide ((Z.length:Int)<2)=true:=decide_eq_true (by omega);have hv:fE (kJ l1 fr) (kJ l1 D) ⟨fr,D,1,mx,gd⟩ a b Z.length=17:=by simp[fE,mE,gE,G,U.out,X.out,I.out,L.out,Y.out,aa.out,ab.out,ae.out,af.out,ah.out,q0,ai.out,show Z.length<2 by omega]
                            case' q5=>
                              have o1:decide ((Z.length:Int)<2)=false:=decide_eq_false (by omega);refine if m1:mx=0 then ?p4 else ?q4
                              case' p4=>
                                subst m1;refine if g2:gd.toList=([]:List UInt8)then ?p3 else ?q3
                                case' p3=>
                                  have aC:(gd.toList==([]:List UInt8))=true:=beq_iff_eq.mpr g2;have aB:(gd.toList !=([]:List UInt8))=false:=bne_eq_false_iff_eq.mpr g2;have al:=mk0 g2;clear g2;have hv:fE (kJ l1 fr) (kJ l1 D) ⟨fr,D,1,0,gd⟩ a b Z.length=0:=by simp[fE,mE,gE,G,U.out,X.out,I.out,L.out,Y.out,aa.out,ab.out,ae.out,af.out,ah.out,q0,ai.out,show ¬Z.length<2 by omega,al.out]
                                case' q3=>
                                  have aC:(gd.toList==([]:List UInt8))=false:=beq_eq_false_iff_ne.mpr g2;have aB:(gd.toList !=([]:List UInt8))=true:=bne_iff_ne.mpr g2;have al:=mk0 g2;clear g2;have hv:fE (kJ l1 fr) (kJ l1 D) ⟨fr,D,1,0,gd⟩ a b Z.length=18:=by simp[fE,mE,gE,G,U.out,X.out,I.out,L.out,Y.out,aa.out,ab.out,ae.out,af.out,ah.out,q0,ai.out,show ¬Z.length<2 by omega,al.out]
                              case' q4=>
                                have aL:(mx==0)=false:=beq_eq_false_iff_ne.mpr m1;have aN:(mx !=0)=true:=bne_iff_ne.mpr m1;have hv:fE (kJ l1 fr) (kJ l1 D) ⟨fr,D,1,mx,gd⟩ a b Z.length=17:=by simp[fE,mE,gE,G,U.out,X.out,I.out,L.out,Y.out,aa.out,ab.out,ae.out,af.out,ah.out,q0,ai.out,show ¬Z.length<2 by omega,m1]
                          case' q6=>
                            have ax:(a==5)=false:=beq_eq_false_iff_ne.mpr a5;have ap:(a !=5)=true:=bne_iff_ne.mpr a5;have ai:=mk0 a5;clear a5;have hv:fE (kJ l1 fr) (kJ l1 D) ⟨fr,D,1,mx,gd⟩ a b Z.length=17:=by simp[fE,mE,gE,G,U.out,X.out,I.out,L.out,Y.out,aa.out,ab.out,ae.out,af.out,ah.out,q0,ai.out]
                        case' q18=>
                          have bn:(kd==1)=false:=beq_eq_false_iff_ne.mpr q1;have bq:(kd !=1)=true:=bne_iff_ne.mpr q1;refine if q2:kd=2 then ?p17 else ?q17
                          case' p17=>
                            subst q2;refine if a5:a=5 then ?p10 else ?q10
                            case' p10=>
                              have ax:(a==5)=true:=beq_iff_eq.mpr a5;have ap:(a !=5)=false:=bne_eq_false_iff_eq.mpr a5;have ai:=mk0 a5;clear a5;refine if o2:Z.length<2 then ?p9 else ?q9
                              case' p9=>
                                have o1:decide ((Z.length:Int)<2)=true:=decide_eq_true (by omega);have hv:fE (kJ l1 fr) (kJ l1 D) ⟨fr,D,2,mx,gd⟩ a b Z.length=17:=by simp[fE,mE,gE,G,U.out,X.out,I.out,L.out,Y.out,aa.out,ab.out,ae.out,af.out,ah.out,q0,q1,ai.out,show Z.length<2 by omega]
                              case' q9=>
                                have o1:decide ((Z.length:Int)<2)=false:=decide_eq_false (by omega);refine if m1:mx=0 then ?p8 else ?q8
                                case' p8=>
                                  subst m1;refine if g1:ge=0 then ?p7 else ?q7
                                  case' p7=>
                                    subst g1;have hv:fE (kJ l1 fr) (kJ l1 D) ⟨fr,D,2,0,gd⟩ a b Z.length=0:=by simp[fE,mE,gE,G,U.out,X.out,I.out,L.out,Y.out,aa.out,ab.out,ae.out,af.out,ah.out,q0,q1,ai.out,show ¬Z.length<2 by omega]
                                  case' q7=>
                                    have aY:(ge==0)=false:=beq_eq_false_iff_ne.mpr g1;have a7:(ge !=0)=true:=bne_iff_ne.mpr g1;have hv:fE (kJ l1 fr) (kJ l1 D) ⟨fr,D,2,0,gd⟩ a b Z.length=18:=by simp[fE,mE,gE,G,U.out,X.out,I.out,L.out,Y.out,aa.out,ab.out,ae.out,af.out,ah.out,q0,q1,ai.out,show ¬Z.length<2 by omega,g1]
                                case' q8=>
                                  have aL:(mx==0)=false:=beq_eq_false_iff_ne.mpr m1;have aN:(mx !=0)=true:=bne_iff_ne.mpr m1;have hv:fE (kJ l1 fr) (kJ l1 D) ⟨fr,D,2,mx,gd⟩ a b Z.length=17:=by simp[fE,mE,gE,G,U.out,X.out,I.out,L.out,Y.out,aa.out,ab.out,ae.out,af.out,ah.out,q0,q1,ai.out,show ¬Z.length<2 by omega,m1]
                            case' q10=>
                              have ax:(a==5)=false:=beq_eq_false_iff_ne.mpr a5;have ap:(a !=5)=true:=bne_iff_ne.mpr a5;have ai:=mk0 a5;clear a5;have hv:fE (kJ l1 fr) (kJ l1 D) ⟨fr,D,2,mx,gd⟩ a b Z.length=17:=by simp[fE,mE,gE,G,U.out,X.out,I.out,L.out,Y.out,aa.out,ab.out,ae.out,af.out,ah.out,q0,q1,ai.out]
                          case' q17=>
                            have bu:(kd==2)=false:=beq_eq_false_iff_ne.mpr q2;have bp:(kd !=2)=true:=bne_iff_ne.mpr q2;refine if q3:kd=3 then ?p16 else ?q16
                            case' p16=>
                              subst q3;refine if a5:a=5 then ?p15 else ?q15
                              case' p15=>
                                have ax:(a==5)=true:=beq_iff_eq.mpr a5;have ap:(a !=5)=false:=bne_eq_false_iff_eq.mpr a5;have ai:=mk0 a5;clear a5;refine if o2:Z.length<2 then ?p14 else ?q14
                                case' p14=>
                                  have o1:decide ((Z.length:Int)<2)=true:=decide_eq_true (by omega);have hv:fE (kJ l1 fr) (kJ l1 D) ⟨fr,D,3,mx,gd⟩ a b Z.length=17:=by simp[fE,mE,gE,G,U.out,X.out,I.out,L.out,Y.out,aa.out,ab.out,ae.out,af.out,ah.out,q0,q1,q2,ai.out,show Z.length<2 by omega]
                                case' q14=>
                                  have o1:decide ((Z.length:Int)<2)=false:=decide_eq_false (by omega);refine if m2:mx<1 then ?p13 else ?q13
                                  case' p13=>
                                    have bc:decide (mx<1)=true:=decide_eq_true m2;have hv:fE (kJ l1 fr) (kJ l1 D) ⟨fr,D,3,mx,gd⟩ a b Z.length=17:=by simp[fE,mE,gE,G,U.out,X.out,I.out,L.out,Y.out,aa.out,ab.out,ae.out,af.out,ah.out,q0,q1,q2,ai.out,show ¬Z.length<2 by omega,show mx<1 by omega]
                                  case' q13=>
                                    have bc:decide (mx<1)=false:=decide_eq_false m2;refine if m3:mx>9 then ?p12 else ?q12
                                    case' p12=>
                                      have bh:decide (mx>9)=true:=decide_eq_true m3;have hv:fE (kJ l1 fr) (kJ l1 D) ⟨fr,D,3,mx,gd⟩ a b Z.length=17:=by simp[fE,mE,gE,G,U.out,X.out,I.out,L.out,Y.out,aa.out,ab.out,ae.out,af.out,ah.out,q0,q1,q2,ai.out,show ¬Z.length<2 by omega,show ¬mx<1 by omega,show 9<mx by omega]
                                    case' q12=>
                                      have bh:decide (mx>9)=false:=decide_eq_false m3;refine if g1:ge=0 then ?p11 else ?q11
                                      case' p11=>
                                        subst g1;have hv:fE (kJ l1 fr) (kJ l1 D) ⟨fr,D,3,mx,gd⟩ a b Z.length=0:=by simp[fE,mE,gE,G,U.out,X.out,I.out,L.out,Y.out,aa.out,ab.out,ae.out,af.out,ah.out,q0,q1,q2,ai.out,show ¬Z.length<2 by omega,show ¬mx<1 by omega,show ¬9<mx by omega]
                                      case' q11=>
                                        have aY:(ge==0)=false:=beq_eq_false_iff_ne.mpr g1;have a7:(ge !=0)=true:=bne_iff_ne.mpr g1;have hv:fE (kJ l1 fr) (kJ l1 D) ⟨fr,D,3,mx,gd⟩ a b Z.length=18:=by simp[fE,mE,gE,G,U.out,X.out,I.out,L.out,Y.out,aa.out,ab.out,ae.out,af.out,ah.out,q0,q1,q2,ai.out,show ¬Z.length<2 by omega,show ¬mx<1 by omega,show ¬9<mx by omega,g1]
                              case' q15=>
                                have ax:(a==5)=false:=beq_eq_false_iff_ne.mpr a5;have ap:(a !=5)=true:=bne_iff_ne.mpr a5;have ai:=mk0 a5;clear a5;have hv:fE (kJ l1 fr) (kJ l1 D) ⟨fr,D,3,mx,gd⟩ a b Z.length=17:=by simp[fE,mE,gE,G,U.out,X.out,I.out,L.out,Y.out,aa.out,ab.out,ae.out,af.out,ah.out,q0,q1,q2,ai.out]
                            case' q16=>
                              have bl:(kd==3)=false:=beq_eq_false_iff_ne.mpr q3;have bs:(kd !=3)=true:=bne_iff_ne.mpr q3;exfalso;omega
      case' q27=>
        have a2:(s1==s2)=false:=beq_eq_false_iff_ne.mpr hs;have a6:(s1 !=s2)=true:=bne_iff_ne.mpr hs;have Y:=mk0 hs;clear hs;have hv:fE (kJ l1 fr) (kJ l1 D) ⟨fr,D,kd,mx,gd⟩ a b Z.length=17:=by simp[fE,mE,gE,G,U.out,X.out,I.out,L.out,Y.out]
  all_goals
    go_wp2_with(first|(go_at_call 13;(with_reducible refine(iD.calls k a0 _ _ l1 _ _ l2 fr Z _ ?s1 ?s2 ?s3 ?s4 HO.out).mono ?_);(case s1=>exact Kd.iT ao.out (by repeat(first|exact ag.out|apply eP|apply eZ)));(case s2=>exact az.out);(case s3=>exact Kd.iT ay.out (by repeat(first|exact ag.out|apply eP|apply eZ)));(case s4=>exact an.out);rintro e w3⟨v3,rfl,aq,av⟩;obtain⟨A3,c3,rfl⟩:=Kd.qw aq;have ak:=Bx.below (by repeat(first|exact aj.out|apply Bx.drewN|apply Bx.drew)) av;clear ag;have ag:=mk0 ak.low;clear aj;have aj:=mk0 ak;obtain⟨y0,y1,y2,y3,y4⟩:=kT aj.out.2.1.out;clear ak av aq)|(go_at_call 50;(refine(zR gd _).mono ?_);rintro e w4⟨v4,rfl,au⟩;rw[G];have am:=Bx.below (by repeat(first|exact aj.out|apply Bx.drewN|apply Bx.drew)) au;clear ag;have ag:=mk0 am.low;clear aj;have aj:=mk0 am;clear am au))
    repeat(go_quiet(fail);try go_wp2_with(first|(go_at_call 13;(with_reducible refine(iD.calls k a0 _ _ l1 _ _ l2 fr Z _ ?s1 ?s2 ?s3 ?s4 HO.out).mono ?_);(case s1=>exact Kd.iT ao.out (by repeat(first|exact ag.out|apply eP|apply eZ)));(case s2=>exact az.out);(case s3=>exact Kd.iT ay.out (by repeat(first|exact ag.out|apply eP|apply eZ)));(case s4=>exact an.out);rintro e w3⟨v3,rfl,aq,av⟩;obtain⟨A3,c3,rfl⟩:=Kd.qw aq;have ak:=Bx.below (by repeat(first|exact aj.out|apply Bx.drewN|apply Bx.drew)) av;clear ag;have ag:=mk0 ak.low;clear aj;have aj:=mk0 ak;obtain⟨y0,y1,y2,y3,y4⟩:=kT aj.out.2.1.out;clear ak av aq)|(go_at_call 50;(refine(zR gd _).mono ?_);rintro e w4⟨v4,rfl,au⟩;rw[G];have am:=Bx.below (by repeat(first|exact aj.out|apply Bx.drewN|apply Bx.drew)) au;clear ag;have ag:=mk0 am.low;clear aj;have aj:=mk0 am;clear am au)))
    go_ret
    exact⟨congrArg (fun z=>Ending.returned (Value.int .i64 z)) hv.symm,by repeat(first|exact ag.out|apply eP|apply eZ)⟩
end Go.Proofs.Gr
namespace Go.Proofs.Y
open RowKit Lib PW PL PM Gr
def iU.f(k:Nat)(I:ByteArray)(G:List S38)(D:List S40)(L:Int):Option Int:=
  if 0≤wrap64 (L-1)∧wrap64 (L-1)<(D.length:Int)then
    (iL.f I G D (iR D (wrap64 (L-1))).f0).bind fun a=>(iL.f I G D (iR D (wrap64 (L-1))).f1).bind fun b=>
      (iD.f k I G D (iR D (wrap64 (L-1))).f0).bind fun U=>
        some (fE (kJ G (iR D (wrap64 (L-1))).f0) (kJ G (iR D (wrap64 (L-1))).f1) (iR D (wrap64 (L-1))) a b U.length)
  else none
theorem iU.mono:∀G L I D k,LeO (iU.f k G L I D) (iU.f (k+1) G L I D):=by
  intro G L I D k;unfold iU.f
  repeat' first
      |(with_reducible exact LeO.refl _)
      |(with_reducible exact LeO.none _)
      |(with_reducible exact iD.mono _ _ _ _ _)
      |(with_reducible refine LeO.ite ?_ ?_)
      |(with_reducible refine LeO.bind ?_ (fun _=>?_))
theorem iU.calls(k:Nat)(U:ByteArray)(L:Option Addr)(X:Nat)(D:List (S38))(Y:Option Addr)(I:Nat)(G:List (S40))(a1:Int)(r:Int)(w:World)(ae:Kd.C k38 w L D.length D)(aa:D.length≤X)(ab:Kd.C k40 w Y G.length G)(Z:G.length≤I)(h:iU.f k U D G a1=some r):
    Calls Tryz.prog 29 #[.agg #[.string U, .slice L D.length X, .slice Y G.length I], .int .i64 a1] w fun e w'=>e= .returned (.int .i64 r)∧Below w.heap.size w w':=by
  unfold iU.f at h
  split at h
  case isFalse=>cases h
  rename_i af
  obtain⟨a,ha,h⟩:=Option.bind_eq_some_iff.mp h;obtain⟨b,hb,h⟩:=Option.bind_eq_some_iff.mp h;obtain⟨os,ho,h⟩:=Option.bind_eq_some_iff.mp h;cases h;exact DN k U L X D Y I G a1 w ae aa ab Z af.1 af.2 a b os ha hb ho
end Go.Proofs.Y
