/- (number).flow, walked by hand: what is wrong of a flow. -/
import Derived.Test.YtcaegaljhogbjaaGreatDoorGraphOf
import Derived.Test.YtcaegaljhogbjaaGreatDoorNodeE
set_option linter.unusedSimpArgs false
set_option linter.unusedVariables false
namespace Go.Proofs.Gr
open RowKit Lib Go.Sort PW PL PM Y Gd
def fE1(G D:Int)(x:S40)(a b:Int)(outs:Nat):Int:=
  if G=D then
    (if a=2 then 17 else if a=9 then 17 else if b=1 then 17 else if b=8 then 17 else if b=9 then 17 else
     if x.f2<0 then 17 else if 3<x.f2 then 17 else
     if x.f2=0 then mE x else if a=5 then(if outs<2 then 17 else mE x)else 17)
  else 17
theorem Mr(G D:Int)(x:S40)(a b:Int)(outs:Nat):fE G D x a b outs=if a=0 then 17 else if b=0 then 17 else fE1 G D x a b outs:=rfl
def gfV(is D:Bool)(I G:Int)(f:S40)(a b:Int)(outs:Nat):Int:=if is=false then 17 else if D=false then 17 else fE1 I G f a b outs
def gfE(is D:Bool)(x y:S38)(f:S40)(outs:Nat):Int:=if is=false then 17 else if D=false then 17 else fE1 x.f1 y.f1 f x.f0 y.f0 outs
theorem yZ{n a b:Int}(h:qQ.f n a b=some true):a≤n∧n≤b:=by
  unfold qQ.f at h
  split at h
  · exact⟨by omega,of_decide_eq_true (Option.some.inj h)⟩
  · cases h
theorem xX{n a b:Int}(h:qQ.f n a b=some false):n<a∨b<n:=by
  unfold qQ.f at h
  split at h
  · have:=of_decide_eq_false (Option.some.inj h)
    omega
  · omega
theorem yN{b:Int}(h:rz.f b=some true):b=8∨b=9:=by
  unfold rz.f at h
  split at h
  · exact Or.inl (by assumption)
  · exact Or.inr (beq_iff_eq.mp (Option.some.inj h))
theorem vG{b:Int}(h:rz.f b=some false):b≠8∧b≠9:=by
  unfold rz.f at h
  split at h
  · cases h
  · exact⟨by assumption,beq_eq_false_iff_ne.mp (Option.some.inj h)⟩
theorem GM.look{w w':World}{b1 b2:Nat}{l:List S40}(h:GM w b1 b2 l)(x:Int):∃A cap,∀W,Below w.heap.size w W→(Instr.lookup 51 (.map (some b2)) (.int .i64 x) false).run Tryz.prog W= .ok (.slice A (cnt l (true,x)) cap) W:=by
  obtain⟨_,h1,h2,D⟩:=h;obtain⟨A,cap,e⟩:=D (true,x);exact⟨A,cap,fun W G=>by have:=Mp.look Tryz.underlying51 Tryz.underlying3 Cq (h2.below G) x;rw[this];simp only[e]⟩
theorem GM.LH{w w':World}{b1 b2:Nat}{l:List S40}(h:GM w b1 b2 l)(x:Int):∃A cap,∀W,Below w.heap.size w W→(Instr.lookup 51 (.map (some b1)) (.int .i64 x) false).run Tryz.prog W= .ok (.slice A (cnt l (false,x)) cap) W:=by
  obtain⟨_,h1,_,D⟩:=h;obtain⟨A,cap,e⟩:=D (false,x);exact⟨A,cap,fun W G=>by have:=Mp.look Tryz.underlying51 Tryz.underlying3 Cq (h1.below G) x;rw[this];simp only[e]⟩
set_option maxHeartbeats 8000000 in
set_option maxRecDepth 100000 in
theorem DF (a0:ByteArray) (A1:Option Addr) (c1:Nat) (l1:List S38) (A2:Option Addr) (c2:Nat) (l2:List S40) (b1 b2:Nat) (n:Int) (w:World)
    (aV:Kd.C k38 w A1 l1.length l1) (aY:l1.length≤c1) (aF:Kd.C k40 w A2 l2.length l2) (aI:l2.length≤c2) (hG:GM w b1 b2 l2) (hW:Wrong w)
    (p:0≤wrap64 (n-1)) (q:wrap64 (n-1)<(l2.length:Int)) (x y:S38) (is af:Bool)
    (hx:rW.f a0 l1 l2 (iR l2 (wrap64 (n-1))).f0=some (x.f0,x.f1,x.f2,x.f3,x.f4,is)) (hy:rW.f a0 l1 l2 (iR l2 (wrap64 (n-1))).f1=some (y.f0,y.f1,y.f2,y.f3,y.f4,af)):
    Calls Tryz.prog 24 #[.agg #[.string a0, .slice A1 l1.length c1, .slice A2 l2.length c2, .map (some b1), .map (some b2)], .int .i64 n] w fun e w'=>e= .returned (.int .i64 (gfE is af x y (iR l2 (wrap64 (n-1))) (cnt l2 (true,(iR l2 (wrap64 (n-1))).f0))))∧Below w.heap.size w w':=by
  have bl:(IntKind.i64.wrap (n-1))=wrap64 (n-1):=kZ _;generalize wrap64 (n-1)=j at*;obtain⟨ad,e,ar,aW,aS,aG,aN⟩:=zI aF j p q;subst e;have ay:=mk0 aV;have aw:=mk0 aF;have aE:=mk0 aY;have aD:=mk0 aI;have HW:=mk0 hW;have aL:=World.block_lt_of_cell? w _ ar;have bd:(ad.add (j.toNat*5)).block≠w.heap.size:=Nat.ne_of_lt aL;have p':=eq_true p;have q':=eq_true q;generalize iR l2 j=f at*;obtain⟨fr,tt,kd,mx,gd⟩:=f;dsimp only at ar aW aS aG aN hx hy⊢;have HX:=mk0 hx;have HY:=mk0 hy;obtain⟨_,_,ax⟩:=hG.look (w':=w) fr;generalize cnt l2 (true,fr)=I at*;have ao:=mk0 ax;clear aV aF aY aI hW hG hx hy ax;obtain⟨a,s1,ap,am,aq⟩:=x;obtain⟨b,Z,ai,ag,al⟩:=y;dsimp only at HX HY;change Calls _ _ _ _ fun e w'=>e= .returned (.int .i64 (gfV is af s1 Z ⟨fr,tt,kd,mx,gd⟩ a b I))∧Below w.heap.size w w';go_enter Tryz.func24,Tryz.ntmps24;go_wp2_with fail;have HF:=Bx.new w #[.string a0, .slice A1 l1.length c1, .slice (some ad) l2.length c2, .map (some b1), .map (some b2)] 53 #[.int .i64 fr, .int .i64 tt, .int .i64 kd, .int .i64 mx, .string gd] 40;generalize hw:(w.alloc (.cells #[.string a0, .slice A1 l1.length c1, .slice (some ad) l2.length c2, .map (some b1), .map (some b2)] 53)).alloc (.cells #[.int .i64 fr, .int .i64 tt, .int .i64 kd, .int .i64 mx, .string gd] 40)=wc at*;clear hw ar aW aS aG aN aL bd;have aa:=mk0 HF;clear HF;refine(rW.calls a0 _ _ l1 _ _ l2 fr a s1 ap am aq is _ (Kd.iT ay.out aa.out.low) aE.out (Kd.iT aw.out aa.out.low) aD.out HX.out).mono ?_;rintro e w3⟨rfl,aO⟩;have n0:=mk0 ((aa.out.below aO).below (eX (Below.refl _ _) (.cells #[.int .i64 a, .int .i64 s1, .int .i64 ap, .int .i64 am, .string aq] 38)));have ak:=mk0 (qF w3 (.cells #[.int .i64 a, .int .i64 s1, .int .i64 ap, .int .i64 am, .string aq] 38));clear aa aO;have aa:=n0;clear n0;obtain⟨g0,g1,g2,g3,g4⟩:=kT aa.out.1.out;obtain⟨f0,f1,f2,f3,f4⟩:=kT aa.out.2.1.out;go_wp2_with fail;clear g0 g1 g2 g3 g4 f0 f1 f2 f3 f4;generalize aJ:w3.alloc (.cells #[.int .i64 a, .int .i64 s1, .int .i64 ap, .int .i64 am, .string aq] 38)=w4 at*;have aX:w3.heap.size<w4.heap.size:=by rw[←aJ];simp
  have br:=mk0 aX;clear aJ aX;generalize w3.heap.size=bj at*;refine(rW.calls a0 _ _ l1 _ _ l2 tt b Z ai ag al af _ (Kd.iT ay.out aa.out.low) aE.out (Kd.iT aw.out aa.out.low) aD.out HY.out).mono ?_;rintro e w5⟨rfl,aC⟩;have n0:=mk0 ((aa.out.below aC).below (eX (Below.refl _ _) (.cells #[.int .i64 b, .int .i64 Z, .int .i64 ai, .int .i64 ag, .string al] 38)));have n1:=mk0 (sG (iW ak.out aC) (.cells #[.int .i64 b, .int .i64 Z, .int .i64 ai, .int .i64 ag, .string al] 38));have aT:=mk0 (qF w5 (.cells #[.int .i64 b, .int .i64 Z, .int .i64 ai, .int .i64 ag, .string al] 38));clear aa aC ak;have aa:=n0;have ak:=n1;clear n0 n1;go_upto_block 0 with fail;generalize w5.alloc (.cells #[.int .i64 b, .int .i64 Z, .int .i64 ai, .int .i64 ag, .string al] 38)=w6 at*;generalize w5.heap.size=bm at*;have ab:=mk0 aa.out.low;have be:=mk0 (HW.out.below ab.out);obtain⟨_,_,_,_,g4⟩:=kT aa.out.1.out;obtain⟨f0,f1,f2,f3,f4⟩:=kT aa.out.2.1.out;obtain⟨_,_,_,_,_⟩:=kT ak.out;obtain⟨_,_,_,_,_⟩:=kT aT.out;have ax:=ao.out w6 ab.out;have bh:=fun k1=>ao.out (w6.drewN k1) (eP ab.out _);have bi:=fun k1 k2=>ao.out ((w6.drewN k1).drewN k2) (eP (eP ab.out _) _);clear ao HW ay aw aE aD HX HY ak aT;obtain⟨hg,aP⟩:∃hg,rz.f b=some hg:=by unfold rz.f;split<;>exact⟨_,rfl⟩
  obtain⟨ik,aK⟩:∃ik,qQ.f kd 0 3=some ik:=by unfold qQ.f;split<;>exact⟨_,rfl⟩
  obtain⟨im,aR⟩:∃im,qQ.f mx 1 9=some im:=by unfold qQ.f;split<;>exact⟨_,rfl⟩
  have az:=mk0 aP;have av:=mk0 aK;have aB:=mk0 aR;clear aP aK aR;generalize D:guardE gd=ge;refine if e1:is=true then ?p1 else ?q1
  case' p1=>
    subst e1;refine if e2:af=true then ?p2 else ?q2
    case' p2=>
      subst e2;refine if hs:s1=Z then ?p26 else ?q26
      case' p26=>
        have a9:(s1==Z)=true:=beq_iff_eq.mpr hs;have a2:(s1 !=Z)=false:=bne_eq_false_iff_eq.mpr hs;have G:=mk0 hs;clear hs;refine if n3:a=2 then ?p25 else ?q25
        case' p25=>
          have a3:(a==2)=true:=beq_iff_eq.mpr n3;have a1:(a !=2)=false:=bne_eq_false_iff_eq.mpr n3;have L:=mk0 n3;clear n3;have hv:gfV true true s1 Z ⟨fr,tt,kd,mx,gd⟩ a b I=17:=by simp[gfV,fE1,mE,gE,D,G.out,L.out]
        case' q25=>
          have a3:(a==2)=false:=beq_eq_false_iff_ne.mpr n3;have a1:(a !=2)=true:=bne_iff_ne.mpr n3;have L:=mk0 n3;clear n3;refine if n4:a=9 then ?p24 else ?q24
          case' p24=>
            have a6:(a==9)=true:=beq_iff_eq.mpr n4;have a7:(a !=9)=false:=bne_eq_false_iff_eq.mpr n4;have U:=mk0 n4;clear n4;have hv:gfV true true s1 Z ⟨fr,tt,kd,mx,gd⟩ a b I=17:=by simp[gfV,fE1,mE,gE,D,G.out,L.out,U.out]
          case' q24=>
            have a6:(a==9)=false:=beq_eq_false_iff_ne.mpr n4;have a7:(a !=9)=true:=bne_iff_ne.mpr n4;have U:=mk0 n4;clear n4;refine if n5:b=1 then ?p23 else ?q23
            case' p23=>
              have bc:(b==1)=true:=beq_iff_eq.mpr n5;have a4:(b !=1)=false:=bne_eq_false_iff_eq.mpr n5;have X:=mk0 n5;clear n5;have hv:gfV true true s1 Z ⟨fr,tt,kd,mx,gd⟩ a b I=17:=by simp[gfV,fE1,mE,gE,D,G.out,L.out,U.out,X.out]
            case' q23=>
              have bc:(b==1)=false:=beq_eq_false_iff_ne.mpr n5;have a4:(b !=1)=true:=bne_iff_ne.mpr n5;have X:=mk0 n5;clear n5;refine if e3:hg=true then ?p3 else ?q3
              case' p3=>
                subst e3;have hh:=yN az.out;(have bb:(if b=8 then(17:Int)else if b=9 then 17 else if kd<0 then 17 else if 3<kd then 17 else if kd=0 then mE ⟨fr,tt,kd,mx,gd⟩else if a=5 then(if I<2 then 17 else mE ⟨fr,tt,kd,mx,gd⟩)else 17)=17:=by rcases hh with h|h<;>simp[h]);have hv:gfV true true s1 Z ⟨fr,tt,kd,mx,gd⟩ a b I=17:=by simp only[gfV,fE1,G.out,L.out,U.out,X.out,if_true,if_false,Bool.true_eq_false,bb]
              case' q3=>
                have e3:=Bool.eq_false_iff.mpr e3;subst e3;obtain⟨h8,h9⟩:=vG az.out;refine if e4:ik=true then ?p4 else ?q4
                case' p4=>
                  subst e4;have hk:=yZ av.out;refine if q0:kd=0 then ?p22 else ?q22
                  case' p22=>
                    subst q0;refine if m1:mx=0 then ?p6 else ?q6
                    case' p6=>
                      subst m1;refine if g2:gd.toList=([]:List UInt8)then ?p5 else ?q5
                      case' p5=>
                        have au:(gd.toList==([]:List UInt8))=true:=beq_iff_eq.mpr g2;have aA:(gd.toList !=([]:List UInt8))=false:=bne_eq_false_iff_eq.mpr g2;have ae:=mk0 g2;clear g2;have hv:gfV true true s1 Z ⟨fr,tt,0,0,gd⟩ a b I=0:=by simp[gfV,fE1,mE,gE,D,G.out,L.out,U.out,X.out,h8,h9,ae.out]
                      case' q5=>
                        have au:(gd.toList==([]:List UInt8))=false:=beq_eq_false_iff_ne.mpr g2;have aA:(gd.toList !=([]:List UInt8))=true:=bne_iff_ne.mpr g2;have ae:=mk0 g2;clear g2;have hv:gfV true true s1 Z ⟨fr,tt,0,0,gd⟩ a b I=18:=by simp[gfV,fE1,mE,gE,D,G.out,L.out,U.out,X.out,h8,h9,ae.out]
                    case' q6=>
                      have aU:(mx==0)=false:=beq_eq_false_iff_ne.mpr m1;have aM:(mx !=0)=true:=bne_iff_ne.mpr m1;have hv:gfV true true s1 Z ⟨fr,tt,0,mx,gd⟩ a b I=17:=by simp[gfV,fE1,mE,gE,D,G.out,L.out,U.out,X.out,h8,h9,m1]
                  case' q22=>
                    have bk:(kd==0)=false:=beq_eq_false_iff_ne.mpr q0;have bo:(kd !=0)=true:=bne_iff_ne.mpr q0;refine if q1:kd=1 then ?p21 else ?q21
                    case' p21=>
                      subst q1;refine if a5:a=5 then ?p10 else ?q10
                      case' p10=>
                        have ah:(a==5)=true:=beq_iff_eq.mpr a5;have aj:(a !=5)=false:=bne_eq_false_iff_eq.mpr a5;have Y:=mk0 a5;clear a5;refine if o2:I<2 then ?p9 else ?q9
                        case' p9=>
                          have o1:decide ((I:Int)<2)=true:=decide_eq_true (by omega);have hv:gfV true true s1 Z ⟨fr,tt,1,mx,gd⟩ a b I=17:=by simp[gfV,fE1,mE,gE,D,G.out,L.out,U.out,X.out,h8,h9,q0,Y.out,show I<2 by omega]
                        case' q9=>
                          have o1:decide ((I:Int)<2)=false:=decide_eq_false (by omega);refine if m1:mx=0 then ?p8 else ?q8
                          case' p8=>
                            subst m1;refine if g2:gd.toList=([]:List UInt8)then ?p7 else ?q7
                            case' p7=>
                              have au:(gd.toList==([]:List UInt8))=true:=beq_iff_eq.mpr g2;have aA:(gd.toList !=([]:List UInt8))=false:=bne_eq_false_iff_eq.mpr g2;have ae:=mk0 g2;clear g2;have hv:gfV true true s1 Z ⟨fr,tt,1,0,gd⟩ a b I=0:=by simp[gfV,fE1,mE,gE,D,G.out,L.out,U.out,X.out,h8,h9,q0,Y.out,show ¬I<2 by omega,ae.out]
                            case' q7=>
                              have au:(gd.toList==([]:List UInt8))=false:=beq_eq_false_iff_ne.mpr g2;have aA:(gd.toList !=([]:List UInt8))=true:=bne_iff_ne.mpr g2;have ae:=mk0 g2;clear g2;have hv:gfV true true s1 Z ⟨fr,tt,1,0,gd⟩ a b I=18:=by simp[gfV,fE1,mE,gE,D,G.out,L.out,U.out,X.out,h8,h9,q0,Y.out,show ¬I<2 by omega,ae.out]
                          case' q8=>
                            have aU:(mx==0)=false:=beq_eq_false_iff_ne.mpr m1;have aM:(mx !=0)=true:=bne_iff_ne.mpr m1;have hv:gfV true true s1 Z ⟨fr,tt,1,mx,gd⟩ a b I=17:=by simp[gfV,fE1,mE,gE,D,G.out,L.out,U.out,X.out,h8,h9,q0,Y.out,show ¬I<2 by omega,m1]
                      case' q10=>
                        have ah:(a==5)=false:=beq_eq_false_iff_ne.mpr a5;have aj:(a !=5)=true:=bne_iff_ne.mpr a5;have Y:=mk0 a5;clear a5;have hv:gfV true true s1 Z ⟨fr,tt,1,mx,gd⟩ a b I=17:=by simp[gfV,fE1,mE,gE,D,G.out,L.out,U.out,X.out,h8,h9,q0,Y.out]
                    case' q21=>
                      have bp:(kd==1)=false:=beq_eq_false_iff_ne.mpr q1;have bs:(kd !=1)=true:=bne_iff_ne.mpr q1;refine if q2:kd=2 then ?p20 else ?q20
                      case' p20=>
                        subst q2;refine if a5:a=5 then ?p14 else ?q14
                        case' p14=>
                          have ah:(a==5)=true:=beq_iff_eq.mpr a5;have aj:(a !=5)=false:=bne_eq_false_iff_eq.mpr a5;have Y:=mk0 a5;clear a5;refine if o2:I<2 then ?p13 else ?q13
                          case' p13=>
                            have o1:decide ((I:Int)<2)=true:=decide_eq_true (by omega);have hv:gfV true true s1 Z ⟨fr,tt,2,mx,gd⟩ a b I=17:=by simp[gfV,fE1,mE,gE,D,G.out,L.out,U.out,X.out,h8,h9,q0,q1,Y.out,show I<2 by omega]
                          case' q13=>
                            have o1:decide ((I:Int)<2)=false:=decide_eq_false (by omega);refine if m1:mx=0 then ?p12 else ?q12
                            case' p12=>
                              subst m1;refine if g1:ge=0 then ?p11 else ?q11
                              case' p11=>
                                subst g1;have hv:gfV true true s1 Z ⟨fr,tt,2,0,gd⟩ a b I=0:=by simp[gfV,fE1,mE,gE,D,G.out,L.out,U.out,X.out,h8,h9,q0,q1,Y.out,show ¬I<2 by omega]
                              case' q11=>
                                have a8:(ge==0)=false:=beq_eq_false_iff_ne.mpr g1;have ba:(ge !=0)=true:=bne_iff_ne.mpr g1;have hv:gfV true true s1 Z ⟨fr,tt,2,0,gd⟩ a b I=18:=by simp[gfV,fE1,mE,gE,D,G.out,L.out,U.out,X.out,h8,h9,q0,q1,Y.out,show ¬I<2 by omega,g1]
                            case' q12=>
                              have aU:(mx==0)=false:=beq_eq_false_iff_ne.mpr m1;have aM:(mx !=0)=true:=bne_iff_ne.mpr m1;have hv:gfV true true s1 Z ⟨fr,tt,2,mx,gd⟩ a b I=17:=by simp[gfV,fE1,mE,gE,D,G.out,L.out,U.out,X.out,h8,h9,q0,q1,Y.out,show ¬I<2 by omega,m1]
                        case' q14=>
                          have ah:(a==5)=false:=beq_eq_false_iff_ne.mpr a5;have aj:(a !=5)=true:=bne_iff_ne.mpr a5;have Y:=mk0 a5;clear a5;have hv:gfV true true s1 Z ⟨fr,tt,2,mx,gd⟩ a b I=17:=by simp[gfV,fE1,mE,gE,D,G.out,L.out,U.out,X.out,h8,h9,q0,q1,Y.out]
                      case' q20=>
                        have bv:(kd==2)=false:=beq_eq_false_iff_ne.mpr q2;have bq:(kd !=2)=true:=bne_iff_ne.mpr q2;refine if q3:kd=3 then ?p19 else ?q19
                        case' p19=>
                          subst q3;refine if a5:a=5 then ?p18 else ?q18
                          case' p18=>
                            have ah:(a==5)=true:=beq_iff_eq.mpr a5;have aj:(a !=5)=false:=bne_eq_false_iff_eq.mpr a5;have Y:=mk0 a5;clear a5;refine if o2:I<2 then ?p17 else ?q17
                            case' p17=>
                              have o1:decide ((I:Int)<2)=true:=decide_eq_true (by omega);have hv:gfV true true s1 Z ⟨fr,tt,3,mx,gd⟩ a b I=17:=by simp[gfV,fE1,mE,gE,D,G.out,L.out,U.out,X.out,h8,h9,q0,q1,q2,Y.out,show I<2 by omega]
                            case' q17=>
                              have o1:decide ((I:Int)<2)=false:=decide_eq_false (by omega);refine if an:im=true then ?p15 else ?q15
                              case' p15=>
                                subst an;have hm:=yZ aB.out;refine if g1:ge=0 then ?p16 else ?q16
                                case' p16=>
                                  subst g1;have hv:gfV true true s1 Z ⟨fr,tt,3,mx,gd⟩ a b I=0:=by simp[gfV,fE1,mE,gE,D,G.out,L.out,U.out,X.out,h8,h9,q0,q1,q2,Y.out,show ¬I<2 by omega,show ¬mx<1 by omega,show ¬9<mx by omega]
                                case' q16=>
                                  have a8:(ge==0)=false:=beq_eq_false_iff_ne.mpr g1;have ba:(ge !=0)=true:=bne_iff_ne.mpr g1;have hv:gfV true true s1 Z ⟨fr,tt,3,mx,gd⟩ a b I=18:=by simp[gfV,fE1,mE,gE,D,G.out,L.out,U.out,X.out,h8,h9,q0,q1,q2,Y.out,show ¬I<2 by omega,show ¬mx<1 by omega,show ¬9<mx by omega,g1]
                              case' q15=>
                                have an:=Bool.eq_false_iff.mpr an;subst an;have hm:=xX aB.out;(have aZ:mx<1∨9<mx:=by omega);(have aQ:(if mx<1 then(17:Int)else if 9<mx then 17 else if ge=0 then 0 else 18)=17:=by rcases aZ with h|h<;>simp[h]);have hv:gfV true true s1 Z ⟨fr,tt,3,mx,gd⟩ a b I=17:=by simp[gfV,fE1,mE,gE,D,G.out,L.out,U.out,X.out,h8,h9,q0,q1,q2,Y.out,show ¬I<2 by omega,aQ]
                          case' q18=>
                            have ah:(a==5)=false:=beq_eq_false_iff_ne.mpr a5;have aj:(a !=5)=true:=bne_iff_ne.mpr a5;have Y:=mk0 a5;clear a5;have hv:gfV true true s1 Z ⟨fr,tt,3,mx,gd⟩ a b I=17:=by simp[gfV,fE1,mE,gE,D,G.out,L.out,U.out,X.out,h8,h9,q0,q1,q2,Y.out]
                        case' q19=>
                          have bn:(kd==3)=false:=beq_eq_false_iff_ne.mpr q3;have bu:(kd !=3)=true:=bne_iff_ne.mpr q3;exfalso;omega
                case' q4=>
                  have e4:=Bool.eq_false_iff.mpr e4;subst e4;have hk:=xX av.out;(have bf:(if kd<0 then(17:Int)else if 3<kd then 17 else if kd=0 then mE ⟨fr,tt,kd,mx,gd⟩else if a=5 then(if I<2 then 17 else mE ⟨fr,tt,kd,mx,gd⟩)else 17)=17:=by rcases hk with h|h<;>simp[h]);have hv:gfV true true s1 Z ⟨fr,tt,kd,mx,gd⟩ a b I=17:=by simp only[gfV,fE1,G.out,L.out,U.out,X.out,h8,h9,if_true,if_false,Bool.true_eq_false,bf]
      case' q26=>
        have a9:(s1==Z)=false:=beq_eq_false_iff_ne.mpr hs;have a2:(s1 !=Z)=true:=bne_iff_ne.mpr hs;have G:=mk0 hs;clear hs;have hv:gfV true true s1 Z ⟨fr,tt,kd,mx,gd⟩ a b I=17:=by simp[gfV,fE1,mE,gE,D,G.out]
    case' q2=>
      have e2:=Bool.eq_false_iff.mpr e2;subst e2;have hv:gfV true false s1 Z ⟨fr,tt,kd,mx,gd⟩ a b I=17:=by simp[gfV,fE1,mE,gE,D]
  case' q1=>
    have e1:=Bool.eq_false_iff.mpr e1;subst e1;have hv:gfV false af s1 Z ⟨fr,tt,kd,mx,gd⟩ a b I=17:=by simp[gfV,fE1,mE,gE,D]
  all_goals
    go_wp2_with(first|(go_at_call 43;(with_reducible refine(rz.calls _ _ _ az.out).mono ?_);rintro e w7⟨rfl,⟨nd,rfl⟩⟩)|(go_at_call 21;(with_reducible refine(qQ.calls _ 0 3 _ _ av.out).mono ?_);rintro e w7⟨rfl,⟨nd,rfl⟩⟩)|(go_at_call 21;(with_reducible refine(qQ.calls _ 1 9 _ _ aB.out).mono ?_);rintro e w7⟨rfl,⟨nd,rfl⟩⟩)|(go_at_call 46;(refine(Bu gd _ (Wrong.below be.out (by repeat(first|exact Below.refl _ _|apply eP|apply eZ)))).mono ?_);rintro e w8⟨_,rfl,aH⟩;rw[D];have n0:=mk0 (kg (by repeat(first|exact ab.out|apply eP|apply eZ)) aH);clear ab;have ab:=n0;clear n0 aH))
    go_ret
    exact⟨congrArg (fun z=>Ending.returned (Value.int .i64 z)) hv.symm,by repeat(first|exact ab.out|apply eP|apply eZ)⟩
end Go.Proofs.Gr
