/- (number).node, walked by hand (written by wip/tools/gen_gn.py). -/
import Derived.Test.YtcaegaljhogbjaaGreatDoorGraphFlow
set_option linter.unusedSimpArgs false
set_option linter.unusedVariables false
namespace Go.Proofs.Gr
open RowKit Lib Go.Sort PW PL PM Y Gd
set_option maxHeartbeats 16000000 in
set_option maxRecDepth 100000 in
theorem C9 (a0:ByteArray) (A1:Option Addr) (c1:Nat) (l1:List S38) (A2:Option Addr) (c2:Nat) (l2:List S40) (b1 b2:Nat) (n:Int) (w:World)
    (hl:l1.length≤1000000) (aD:Kd.C k38 w A1 l1.length l1) (aU:l1.length≤c1) (aX:Kd.C k40 w A2 l2.length l2) (aJ:l2.length≤c2) (hn:inL l1 n) (ha:(nd l1 n).f4.size≤1000):
    Calls Tryz.prog 23 #[.agg #[.string a0, .slice A1 l1.length c1, .slice A2 l2.length c2, .map (some b1), .map (some b2)], .int .i64 n] w fun e w'=>e= .returned (.int .i64 (r9 l1 n (nd l1 n)))∧Below w.heap.size w w':=by
  obtain⟨bb,p,q⟩:=zw hl hn;clear bb;have hw:=Hg (nd l1 n);have e1:=at_eq (s:=a0) (l2:=l2) hl (nd l1 n).f1;have e2:=at_eq (s:=a0) (l2:=l2) hl (nd l1 n).f3
  have f1:decide (inL l1 (nd l1 n).f1)=false→opn (atS l1 (nd l1 n).f1).f0=false:=fun h=>by
    rw[uF,iC,if_neg (of_decide_eq_false h)];rfl
  have f2:decide (inL l1 (nd l1 n).f3)=false→decide ((atS l1 (nd l1 n).f3).f0=3∨(atS l1 (nd l1 n).f3).f0=7)=false:=fun h=>by
    rw[uF,iC,if_neg (of_decide_eq_false h)];rfl
  rw[y8];unfold nd at*;have bo:(IntKind.i64.wrap (n-1))=wrap64 (n-1):=kZ _;generalize wrap64 (n-1)=j at*;obtain⟨ad,e,aH,bc,a8,a2,ba⟩:=tH aD j p q;subst e;have aZ:=mk0 aD;have aP:=mk0 aX;have aQ:=mk0 aU;have aM:=mk0 aJ;have aO:=World.block_lt_of_cell? w _ aH;have bj:(ad.add (j.toNat*5)).block≠w.heap.size:=Nat.ne_of_lt aO;have p':=eq_true p;have q':=eq_true q;generalize iH l1 j=x at*;obtain⟨D,I,X,G,x4⟩:=x;dsimp only at*;have ah:=mk0 (fun h=>hw h ha 5001 (Nat.le_refl _));obtain⟨tv,aV⟩:∃b,xg ⟨D,I,X,G,x4⟩=b:=⟨_,rfl⟩
  obtain⟨Z,aW⟩:∃b,(x4.toList==([]:List UInt8))=b:=⟨_,rfl⟩
  have L:(x4.toList !=([]:List UInt8))= !Z:=by rw[←aW];rfl
  rw[aV]at ah⊢;rw[aW];generalize atS l1 I=sc at*;generalize atS l1 G=on at*;generalize decide (inL l1 I)=a1 at*;generalize decide (inL l1 G)=aL at*;obtain⟨sk,s1,s2,s3,s4⟩:=sc;obtain⟨oo,U,o2,o3,o4⟩:=on;dsimp only at*;have a3:=mk0 (D5 sk);have bf:=mk0 (Gz oo);have a6:=mk0 f1;have aS:=mk0 f2;generalize opn sk=ob at*;generalize decide (oo=3∨oo=7)=act at*;have HX:=mk0 e1;have a5:=mk0 e2;obtain⟨hg,aY⟩:∃hg,rz.f D=some hg:=by unfold rz.f;split<;>exact⟨_,rfl⟩
  obtain⟨ik,aN⟩:∃ik,qQ.f D 1 9=some ik:=by unfold qQ.f;split<;>exact⟨_,rfl⟩
  obtain⟨im,aK⟩:∃im,qQ.f X 0 7=some im:=by unfold qQ.f;split<;>exact⟨_,rfl⟩
  have ae:=mk0 aY;have aA:=mk0 aN;have ag:=mk0 aK;clear aD aX aU aJ e1 e2 f1 f2 hw hl hn ha aY aN aK aV;go_enter Tryz.func23,Tryz.ntmps23;go_wp2_with fail;have HF:=Bx.new w #[.string a0, .slice (some ad) l1.length c1, .slice A2 l2.length c2, .map (some b1), .map (some b2)] 53 #[.int .i64 D, .int .i64 I, .int .i64 X, .int .i64 G, .string x4] 38;generalize hw:(w.alloc (.cells #[.string a0, .slice (some ad) l1.length c1, .slice A2 l2.length c2, .map (some b1), .map (some b2)] 53)).alloc (.cells #[.int .i64 D, .int .i64 I, .int .i64 X, .int .i64 G, .string x4] 38)=wc at*;clear hw aH bc a8 a2 ba aO bj;have ab:=mk0 HF;clear HF;refine(rW.calls a0 _ _ l1 _ _ l2 I sk s1 s2 s3 s4 a1 _ (Kd.iT aZ.out ab.out.low) aQ.out (Kd.iT aP.out ab.out.low) aM.out HX.out).mono ?_;rintro e w3⟨rfl,aR⟩;have n0:=mk0 ((ab.out.below aR).below (eX (Below.refl _ _) (.cells #[.int .i64 sk, .int .i64 s1, .int .i64 s2, .int .i64 s3, .string s4] 38)));have aT:=mk0 (qF w3 (.cells #[.int .i64 sk, .int .i64 s1, .int .i64 s2, .int .i64 s3, .string s4] 38));clear ab aR HX;have ab:=n0;clear n0;go_upto_block 0 with fail;generalize w3.alloc (.cells #[.int .i64 sk, .int .i64 s1, .int .i64 s2, .int .i64 s3, .string s4] 38)=w4 at*;generalize w3.heap.size=bl at*;have aa:=mk0 ab.out.low;obtain⟨_,_,_,_,_⟩:=kT ab.out.1.out;obtain⟨_,_,_,_,_⟩:=kT ab.out.2.1.out;obtain⟨m0,_,_,_,_⟩:=kT aT.out;clear aT;refine if e1:ik=true then ?p1 else ?q1
  case' p1=>
    subst e1;have hk:=yZ aA.out;refine if s0:I=0 then ?p35 else ?q35
    case' p35=>
      subst I;refine if k3:D=3 then ?p16 else ?q16
      case' p16=>
        subst D;refine if e2:im=true then ?p2 else ?q2
        case' p2=>
          subst e2;have hm:=yZ ag.out;(obtain rfl:hg=false:=by have:=Am 3;rw[ae.out]at this;simpa using this);obtain⟨h8,h9⟩:=vG ae.out;refine if nz:G=0 then ?p4 else ?q4
          case' p4=>
            subst G;refine if e3:Z=true then ?p3 else ?q3
            case' p3=>
              subst e3;have af:(x4.toList !=([]:List UInt8))=false:=L;clear L;have Y:nE 3 0 X 0 n ob act U tv true=0:=by simp[nE,show ¬3<1 by omega,show ¬9<3 by omega,show ¬X<0 by omega,show ¬8≤X by omega,h8,h9]
            case' q3=>
              have e3:=Bool.eq_false_iff.mpr e3;subst e3;have af:(x4.toList !=([]:List UInt8))=true:=L;clear L;have Y:nE 3 0 X 0 n ob act U tv false=6:=by simp[nE,show ¬3<1 by omega,show ¬9<3 by omega,show ¬X<0 by omega,show ¬8≤X by omega,h8,h9]
          case' q4=>
            have az:(G==0)=false:=beq_eq_false_iff_ne.mpr nz;have aG:(G !=0)=true:=bne_iff_ne.mpr nz;have Y:nE 3 0 X G n ob act U tv Z=16:=by simp[nE,show ¬3<1 by omega,show ¬9<3 by omega,show ¬X<0 by omega,show ¬8≤X by omega,h8,h9,nz]
        case' q2=>
          have e2:=Bool.eq_false_iff.mpr e2;subst e2;have hm:=xX ag.out;(have ay:X<0∨8≤X:=by omega);have Y:nE 3 0 X G n ob act U tv Z=16:=by simp[nE,show ¬3<1 by omega,show ¬9<3 by omega,ay]
      case' q16=>
        have a7:(D==3)=false:=beq_eq_false_iff_ne.mpr k3;have be:(D !=3)=true:=bne_iff_ne.mpr k3;refine if c0:X=0 then ?p15 else ?q15
        case' p15=>
          subst X;refine if e5:hg=true then ?p5 else ?q5
          case' p5=>
            subst e5;have hh:=yN ae.out;refine if e6:aL=true then ?p6 else ?q6
            case' p6=>
              subst e6;refine if n3:G≥n then ?p10 else ?q10
              case' p10=>
                have aE:decide (G≥n)=true:=decide_eq_true n3;have Y:nE D 0 0 G n ob act U tv Z=16:=by simp[nE,show ¬D<1 by omega,show ¬9<D by omega,k3,hh,show ¬G<n by omega]
              case' q10=>
                have aE:decide (G≥n)=false:=decide_eq_false n3;refine if e7:act=true then ?p7 else ?q7
                case' p7=>
                  subst e7;refine if ns:U=0 then ?p9 else ?q9
                  case' p9=>
                    have aB:(U==0)=true:=beq_iff_eq.mpr ns;have aF:(U !=0)=false:=bne_eq_false_iff_eq.mpr ns;have ai:=mk0 ns;clear ns;obtain⟨c1,c2,hw⟩:=ah.out (by omega);have ax:=mk0 hw;clear hw;refine if e8:tv=true then ?p8 else ?q8
                    case' p8=>
                      subst e8;have Y:nE D 0 0 G n ob true U true Z=0:=by simp[nE,show ¬D<1 by omega,show ¬9<D by omega,k3,hh,show G<n by omega,ai.out]
                    case' q8=>
                      have e8:=Bool.eq_false_iff.mpr e8;subst e8;have Y:nE D 0 0 G n ob true U false Z=6:=by simp[nE,show ¬D<1 by omega,show ¬9<D by omega,k3,hh,show G<n by omega,ai.out]
                  case' q9=>
                    have aB:(U==0)=false:=beq_eq_false_iff_ne.mpr ns;have aF:(U !=0)=true:=bne_iff_ne.mpr ns;have Y:nE D 0 0 G n ob true U tv Z=16:=by simp[nE,show ¬D<1 by omega,show ¬9<D by omega,k3,hh,show G<n by omega,ns]
                case' q7=>
                  have e7:=Bool.eq_false_iff.mpr e7;subst e7;have Y:nE D 0 0 G n ob false U tv Z=16:=by simp[nE,show ¬D<1 by omega,show ¬9<D by omega,k3,hh,show G<n by omega]
            case' q6=>
              have e6:=Bool.eq_false_iff.mpr e6;subst e6;obtain rfl:=aS.out rfl;have Y:nE D 0 0 G n ob false U tv Z=16:=by simp[nE,show ¬D<1 by omega,show ¬9<D by omega,k3,hh]
          case' q5=>
            have e5:=Bool.eq_false_iff.mpr e5;subst e5;obtain⟨h8,h9⟩:=vG ae.out;refine if nz:G=0 then ?p14 else ?q14
            case' p14=>
              subst G;refine if n4:D=4 then ?p13 else ?q13
              case' p13=>
                subst D;obtain⟨c1,c2,hw⟩:=ah.out (by omega);have ax:=mk0 hw;clear hw;refine if aq:tv=true then ?p11 else ?q11
                case' p11=>
                  subst aq;have Y:nE 4 0 0 0 n ob act U true Z=0:=by simp[nE,show ¬4<1 by omega,show ¬9<4 by omega,k3,h8,h9]
                case' q11=>
                  have aq:=Bool.eq_false_iff.mpr aq;subst aq;have Y:nE 4 0 0 0 n ob act U false Z=6:=by simp[nE,show ¬4<1 by omega,show ¬9<4 by omega,k3,h8,h9]
              case' q13=>
                have bi:(D==4)=false:=beq_eq_false_iff_ne.mpr n4;have bk:(D !=4)=true:=bne_iff_ne.mpr n4;refine if au:Z=true then ?p12 else ?q12
                case' p12=>
                  subst au;have af:(x4.toList !=([]:List UInt8))=false:=L;clear L;have Y:nE D 0 0 0 n ob act U tv true=0:=by simp[nE,show ¬D<1 by omega,show ¬9<D by omega,k3,h8,h9,n4]
                case' q12=>
                  have au:=Bool.eq_false_iff.mpr au;subst au;have af:(x4.toList !=([]:List UInt8))=true:=L;clear L;have Y:nE D 0 0 0 n ob act U tv false=6:=by simp[nE,show ¬D<1 by omega,show ¬9<D by omega,k3,h8,h9,n4]
            case' q14=>
              have az:(G==0)=false:=beq_eq_false_iff_ne.mpr nz;have aG:(G !=0)=true:=bne_iff_ne.mpr nz;have Y:nE D 0 0 G n ob act U tv Z=16:=by simp[nE,show ¬D<1 by omega,show ¬9<D by omega,k3,h8,h9,nz]
        case' q15=>
          have bd:(X==0)=false:=beq_eq_false_iff_ne.mpr c0;have bh:(X !=0)=true:=bne_iff_ne.mpr c0;have Y:nE D 0 X G n ob act U tv Z=16:=by simp[nE,show ¬D<1 by omega,show ¬9<D by omega,k3,c0]
    case' q35=>
      have bn:(I==0)=false:=beq_eq_false_iff_ne.mpr s0;have bm:(I !=0)=true:=bne_iff_ne.mpr s0;refine if aj:a1=true then ?p17 else ?q17
      case' p17=>
        subst aj;refine if n1:I≥n then ?p34 else ?q34
        case' p34=>
          have a9:decide (I≥n)=true:=decide_eq_true n1;have Y:nE D I X G n ob act U tv Z=16:=by simp[nE,show ¬D<1 by omega,show ¬9<D by omega,s0,show n≤I by omega]
        case' q34=>
          have a9:decide (I≥n)=false:=decide_eq_false n1;refine if ar:ob=true then ?p18 else ?q18
          case' p18=>
            subst ar;refine if k3:D=3 then ?p33 else ?q33
            case' p33=>
              subst D;refine if am:im=true then ?p19 else ?q19
              case' p19=>
                subst am;have hm:=yZ ag.out;(obtain rfl:hg=false:=by have:=Am 3;rw[ae.out]at this;simpa using this);obtain⟨h8,h9⟩:=vG ae.out;refine if nz:G=0 then ?p21 else ?q21
                case' p21=>
                  subst G;refine if av:Z=true then ?p20 else ?q20
                  case' p20=>
                    subst av;have af:(x4.toList !=([]:List UInt8))=false:=L;clear L;have Y:nE 3 I X 0 n true act U tv true=0:=by simp[nE,show ¬3<1 by omega,show ¬9<3 by omega,s0,show ¬n≤I by omega,show ¬X<0 by omega,show ¬8≤X by omega,h8,h9]
                  case' q20=>
                    have av:=Bool.eq_false_iff.mpr av;subst av;have af:(x4.toList !=([]:List UInt8))=true:=L;clear L;have Y:nE 3 I X 0 n true act U tv false=6:=by simp[nE,show ¬3<1 by omega,show ¬9<3 by omega,s0,show ¬n≤I by omega,show ¬X<0 by omega,show ¬8≤X by omega,h8,h9]
                case' q21=>
                  have az:(G==0)=false:=beq_eq_false_iff_ne.mpr nz;have aG:(G !=0)=true:=bne_iff_ne.mpr nz;have Y:nE 3 I X G n true act U tv Z=16:=by simp[nE,show ¬3<1 by omega,show ¬9<3 by omega,s0,show ¬n≤I by omega,show ¬X<0 by omega,show ¬8≤X by omega,h8,h9,nz]
              case' q19=>
                have am:=Bool.eq_false_iff.mpr am;subst am;have hm:=xX ag.out;(have ay:X<0∨8≤X:=by omega);have Y:nE 3 I X G n true act U tv Z=16:=by simp[nE,show ¬3<1 by omega,show ¬9<3 by omega,s0,show ¬n≤I by omega,ay]
            case' q33=>
              have a7:(D==3)=false:=beq_eq_false_iff_ne.mpr k3;have be:(D !=3)=true:=bne_iff_ne.mpr k3;refine if c0:X=0 then ?p32 else ?q32
              case' p32=>
                subst X;refine if al:hg=true then ?p22 else ?q22
                case' p22=>
                  subst al;have hh:=yN ae.out;refine if ak:aL=true then ?p23 else ?q23
                  case' p23=>
                    subst ak;refine if n3:G≥n then ?p27 else ?q27
                    case' p27=>
                      have aE:decide (G≥n)=true:=decide_eq_true n3;have Y:nE D I 0 G n true act U tv Z=16:=by simp[nE,show ¬D<1 by omega,show ¬9<D by omega,s0,show ¬n≤I by omega,k3,hh,show ¬G<n by omega]
                    case' q27=>
                      have aE:decide (G≥n)=false:=decide_eq_false n3;refine if ap:act=true then ?p24 else ?q24
                      case' p24=>
                        subst ap;refine if ns:U=I then ?p26 else ?q26
                        case' p26=>
                          have aB:(U==I)=true:=beq_iff_eq.mpr ns;have aF:(U !=I)=false:=bne_eq_false_iff_eq.mpr ns;have ai:=mk0 ns;clear ns;obtain⟨c1,c2,hw⟩:=ah.out (by omega);have ax:=mk0 hw;clear hw;refine if an:tv=true then ?p25 else ?q25
                          case' p25=>
                            subst an;have Y:nE D I 0 G n true true U true Z=0:=by simp[nE,show ¬D<1 by omega,show ¬9<D by omega,s0,show ¬n≤I by omega,k3,hh,show G<n by omega,ai.out]
                          case' q25=>
                            have an:=Bool.eq_false_iff.mpr an;subst an;have Y:nE D I 0 G n true true U false Z=6:=by simp[nE,show ¬D<1 by omega,show ¬9<D by omega,s0,show ¬n≤I by omega,k3,hh,show G<n by omega,ai.out]
                        case' q26=>
                          have aB:(U==I)=false:=beq_eq_false_iff_ne.mpr ns;have aF:(U !=I)=true:=bne_iff_ne.mpr ns;have Y:nE D I 0 G n true true U tv Z=16:=by simp[nE,show ¬D<1 by omega,show ¬9<D by omega,s0,show ¬n≤I by omega,k3,hh,show G<n by omega,ns]
                      case' q24=>
                        have ap:=Bool.eq_false_iff.mpr ap;subst ap;have Y:nE D I 0 G n true false U tv Z=16:=by simp[nE,show ¬D<1 by omega,show ¬9<D by omega,s0,show ¬n≤I by omega,k3,hh,show G<n by omega]
                  case' q23=>
                    have ak:=Bool.eq_false_iff.mpr ak;subst ak;obtain rfl:=aS.out rfl;have Y:nE D I 0 G n true false U tv Z=16:=by simp[nE,show ¬D<1 by omega,show ¬9<D by omega,s0,show ¬n≤I by omega,k3,hh]
                case' q22=>
                  have al:=Bool.eq_false_iff.mpr al;subst al;obtain⟨h8,h9⟩:=vG ae.out;refine if nz:G=0 then ?p31 else ?q31
                  case' p31=>
                    subst G;refine if n4:D=4 then ?p30 else ?q30
                    case' p30=>
                      subst D;obtain⟨c1,c2,hw⟩:=ah.out (by omega);have ax:=mk0 hw;clear hw;refine if ao:tv=true then ?p28 else ?q28
                      case' p28=>
                        subst ao;have Y:nE 4 I 0 0 n true act U true Z=0:=by simp[nE,show ¬4<1 by omega,show ¬9<4 by omega,s0,show ¬n≤I by omega,k3,h8,h9]
                      case' q28=>
                        have ao:=Bool.eq_false_iff.mpr ao;subst ao;have Y:nE 4 I 0 0 n true act U false Z=6:=by simp[nE,show ¬4<1 by omega,show ¬9<4 by omega,s0,show ¬n≤I by omega,k3,h8,h9]
                    case' q30=>
                      have bi:(D==4)=false:=beq_eq_false_iff_ne.mpr n4;have bk:(D !=4)=true:=bne_iff_ne.mpr n4;refine if aw:Z=true then ?p29 else ?q29
                      case' p29=>
                        subst aw;have af:(x4.toList !=([]:List UInt8))=false:=L;clear L;have Y:nE D I 0 0 n true act U tv true=0:=by simp[nE,show ¬D<1 by omega,show ¬9<D by omega,s0,show ¬n≤I by omega,k3,h8,h9,n4]
                      case' q29=>
                        have aw:=Bool.eq_false_iff.mpr aw;subst aw;have af:(x4.toList !=([]:List UInt8))=true:=L;clear L;have Y:nE D I 0 0 n true act U tv false=6:=by simp[nE,show ¬D<1 by omega,show ¬9<D by omega,s0,show ¬n≤I by omega,k3,h8,h9,n4]
                  case' q31=>
                    have az:(G==0)=false:=beq_eq_false_iff_ne.mpr nz;have aG:(G !=0)=true:=bne_iff_ne.mpr nz;have Y:nE D I 0 G n true act U tv Z=16:=by simp[nE,show ¬D<1 by omega,show ¬9<D by omega,s0,show ¬n≤I by omega,k3,h8,h9,nz]
              case' q32=>
                have bd:(X==0)=false:=beq_eq_false_iff_ne.mpr c0;have bh:(X !=0)=true:=bne_iff_ne.mpr c0;have Y:nE D I X G n true act U tv Z=16:=by simp[nE,show ¬D<1 by omega,show ¬9<D by omega,s0,show ¬n≤I by omega,k3,c0]
          case' q18=>
            have ar:=Bool.eq_false_iff.mpr ar;subst ar;have Y:nE D I X G n false act U tv Z=16:=by simp[nE,show ¬D<1 by omega,show ¬9<D by omega,s0,show ¬n≤I by omega]
      case' q17=>
        have aj:=Bool.eq_false_iff.mpr aj;subst aj;obtain rfl:=a6.out rfl;have Y:nE D I X G n false act U tv Z=16:=by simp[nE,show ¬D<1 by omega,show ¬9<D by omega,s0]
  case' q1=>
    have e1:=Bool.eq_false_iff.mpr e1;subst e1;have hk:=xX aA.out;(have a4:D<1∨9<D:=by omega);have Y:nE D I X G n ob act U tv Z=16:=by simp[nE,a4]
  all_goals
    go_wp2_with(first|(go_at_call 43;(with_reducible refine(rz.calls _ _ _ ae.out).mono ?_);rintro e w7⟨rfl,⟨nd,rfl⟩⟩)|(go_at_call 21;(with_reducible refine(qQ.calls _ 1 9 _ _ aA.out).mono ?_);rintro e w7⟨rfl,⟨nd,rfl⟩⟩)|(go_at_call 21;(with_reducible refine(qQ.calls _ 0 7 _ _ ag.out).mono ?_);rintro e w7⟨rfl,⟨nd,rfl⟩⟩)|(go_at_call 27;(with_reducible refine(tN.calls _ _ _ a3.out).mono ?_);rintro e w7⟨rfl,⟨nd,rfl⟩⟩)|(go_at_call 45;(with_reducible refine(uS.calls _ _ _ bf.out).mono ?_);rintro e w7⟨rfl,⟨nd,rfl⟩⟩)|(go_at_call 44;(with_reducible refine(ru.calls _ _ _ _ _ _ _ _ _ _ ax.out).mono ?_);rintro e w8⟨rfl,aI⟩;have n0:=mk0 (kg (by repeat(first|exact aa.out|apply eP|apply eX|apply eZ)) aI);clear aa;have aa:=n0;clear n0 aI)|(go_at_call 41;(with_reducible refine(rW.calls a0 _ _ l1 _ _ l2 _ _ _ _ _ _ _ _ (Kd.iT aZ.out (by repeat(first|exact aa.out|apply eP|apply eX|apply eZ))) aQ.out (Kd.iT aP.out (by repeat(first|exact aa.out|apply eP|apply eX|apply eZ))) aM.out a5.out).mono ?_);rintro e w9⟨rfl,aC⟩;have n0:=mk0 ((Bx.below (by repeat(first|exact ab.out|apply Bx.drewN|apply Bx.drew)) aC).below (eX (Below.refl _ _) (.cells #[.int .i64 oo, .int .i64 U, .int .i64 o2, .int .i64 o3, .string o4] 38)));clear aa;have aa:=mk0 (Bx.low (Bx.below (by repeat(first|exact ab.out|apply Bx.drewN|apply Bx.drew)) aC));obtain⟨_,q1,q2,q3,q4⟩:=kT n0.out.2.1.out;obtain⟨_,_,_,_,_⟩:=kT (qF w9 (.cells #[.int .i64 oo, .int .i64 U, .int .i64 o2, .int .i64 o3, .string o4] 38));clear n0 aC))
    go_ret
    exact⟨congrArg (fun z=>Ending.returned (Value.int .i64 z)) Y.symm,by repeat(first|exact aa.out|apply eP|apply eX|apply eZ)⟩
end Go.Proofs.Gr
