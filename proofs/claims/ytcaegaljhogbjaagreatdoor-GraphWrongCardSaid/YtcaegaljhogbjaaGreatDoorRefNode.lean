/- The reference's node, walked by hand (written by wip/tools/gen_rn.py). -/
import Derived.Test.YtcaegaljhogbjaaGreatDoorRefNode9
set_option linter.unusedSimpArgs false
set_option linter.unusedVariables false
namespace Go.Proofs.Gr
open RowKit Lib Go.Sort PW PL PM Y Gd
set_option maxHeartbeats 32000000 in
set_option maxRecDepth 100000 in
theorem Jt (a0:ByteArray) (A1:Option Addr) (c1:Nat) (l1:List S38) (A2:Option Addr) (c2:Nat) (l2:List S40) (n:Int) (w:World)
    (hl:l1.length≤1000000) (aq:Kd.C k38 w A1 l1.length l1) (aF:l1.length≤c1) (aI:Kd.C k40 w A2 l2.length l2) (aA:l2.length≤c2) (hn:inL l1 n) (ha:(nd l1 n).f4.size≤1000) (U:(nd l1 n).f0≠8) (L:(nd l1 n).f0≠9):
    Calls Tryz.prog 28 #[.agg #[.string a0, .slice A1 l1.length c1, .slice A2 l2.length c2], .int .i64 n] w fun e w'=>e= .returned (.int .i64 (r9 l1 n (nd l1 n)))∧Below w.heap.size w w':=by
  obtain⟨aN,p,q⟩:=zw hl hn;clear aN;have hw:=yV (s:=a0) (l2:=l2) hl hn;have e1:=vT (s:=a0) (l2:=l2) hl (nd l1 n).f1;rw[←uF]at e1;have e2:=rV (s:=a0) (l2:=l2) hl (nd l1 n).f3;rw[←uF]at e2
  have f3:(atS l1 (nd l1 n).f3).f0≠0→0≤wrap64 ((nd l1 n).f3-1)∧wrap64 ((nd l1 n).f3-1)<(l1.length:Int)∧(atS l1 (nd l1 n).f3).f1=(iH l1 (wrap64 ((nd l1 n).f3-1))).f1:=fun h=>by
    rw[uF]at h
    have hi:=vQ h
    obtain⟨_,a,b⟩:=zw hl hi
    exact⟨a,b,by rw[BQ hi];rfl⟩
  rw[y8,show decide ((atS l1 (nd l1 n).f3).f0=3∨(atS l1 (nd l1 n).f3).f0=7)=(decide ((atS l1 (nd l1 n).f3).f0=3)||decide ((atS l1 (nd l1 n).f3).f0=7))from Bool.decide_or _ _];unfold nd at*;have aZ:(IntKind.i64.wrap (n-1))=wrap64 (n-1):=kZ _;generalize wrap64 (n-1)=j at*;obtain⟨ad,e,aJ,_,_,_,_⟩:=tH aq j p q;subst e;have ai:=mk0 aq;have ag:=mk0 aI;have ah:=mk0 aF;have af:=mk0 aA;have aL:=World.block_lt_of_cell? w _ aJ;have aX:(ad.add (j.toNat*5)).block≠w.heap.size:=Nat.ne_of_lt aL;have p':=eq_true p;have q':=eq_true q;generalize iH l1 j=x at*;obtain⟨G,Y,I,Z,x4⟩:=x;dsimp only at*;have ax:=mk0 (fun h=>hw h ha 5003 (Nat.le_refl _));obtain⟨tv,aG⟩:∃b,xg ⟨G,Y,I,Z,x4⟩=b:=⟨_,rfl⟩
  obtain⟨em,aH⟩:∃b,(x4.toList==([]:List UInt8))=b:=⟨_,rfl⟩
  have X:(x4.toList !=([]:List UInt8))= !em:=by rw[←aH];rfl
  rw[aG]at ax⊢;rw[aH];generalize(atS l1 Y).f0=sk at*;generalize(atS l1 Z).f0=oo at*;generalize(atS l1 Z).f1=os at*;have aU:(IntKind.i64.wrap (Z-1))=wrap64 (Z-1):=kZ _;generalize wrap64 (Z-1)=jo at*;generalize opn sk=ob at*;have aB:=mk0 e1;have aC:=mk0 e2
  have HU:=mk0 (fun h=>by
    obtain⟨a,b,c⟩:=f3 h
    obtain⟨_,e,_,u1,_⟩:=tH aq jo a b
    obtain rfl:=Option.some.inj e
    rw[←c]at u1
    exact(show(0≤jo∧jo<(l1.length:Int))∧w.cell? ⟨(ad.add (jo.toNat*5)).block,(ad.add (jo.toNat*5)).off+1,none⟩=some (.int .i64 os)from⟨⟨a,b⟩,u1⟩))
  clear aq aI aF aA e1 e2 f3 hw hl hn ha aG;have aa:=mk0 (Bx.new w #[.string a0, .slice (some ad) l1.length c1, .slice A2 l2.length c2] 25 #[.int .i64 G, .int .i64 Y, .int .i64 I, .int .i64 Z, .string x4] 38);have D:=mk0 aa.out.low;obtain⟨_,_,_⟩:=qO aa.out.1.out;obtain⟨_,_,_,_,_⟩:=kT aa.out.2.1.out;have aY:(G==8)=false:=beq_eq_false_iff_ne.mpr U;have aT:(G==9)=false:=beq_eq_false_iff_ne.mpr L;refine if l1x:G<1 then ?p63 else ?q63
  case' p63=>
    have aD:decide (G<1)=true:=decide_eq_true l1x;have hv:nE G Y I Z n ob (decide (oo=3)||decide (oo=7)) os tv em=16:=by simp[nE,U,L,show G<1 by omega]
  case' q63=>
    have aD:decide (G<1)=false:=decide_eq_false l1x;refine if l9x:G>9 then ?p62 else ?q62
    case' p62=>
      have aE:decide (G>9)=true:=decide_eq_true l9x;have hv:nE G Y I Z n ob (decide (oo=3)||decide (oo=7)) os tv em=16:=by simp[nE,U,L,show ¬G<1 by omega,show 9<G by omega]
    case' q62=>
      have aE:decide (G>9)=false:=decide_eq_false l9x;refine if s0:Y=0 then ?p61 else ?q61
      case' p61=>
        subst Y;refine if k3:G=3 then ?p48 else ?q48
        case' p48=>
          subst G;refine if c1x:I<0 then ?p42 else ?q42
          case' p42=>
            have ak:decide (I<0)=true:=decide_eq_true c1x;have hv:nE 3 0 I Z n ob (decide (oo=3)||decide (oo=7)) os tv em=16:=by simp[nE,U,L,show ¬3<1 by omega,show ¬9<3 by omega,show I<0 by omega]
          case' q42=>
            have ak:decide (I<0)=false:=decide_eq_false c1x;refine if c8x:I≥8 then ?p41 else ?q41
            case' p41=>
              have al:decide (I≥8)=true:=decide_eq_true c8x;have hv:nE 3 0 I Z n ob (decide (oo=3)||decide (oo=7)) os tv em=16:=by simp[nE,U,L,show ¬3<1 by omega,show ¬9<3 by omega,show ¬I<0 by omega,show 8≤I by omega]
            case' q41=>
              have al:decide (I≥8)=false:=decide_eq_false c8x;refine if nz:Z=0 then ?p40 else ?q40
              case' p40=>
                subst Z;refine if ar:em=true then ?p39 else ?q39
                case' p39=>
                  subst ar;have ae:(x4.toList !=([]:List UInt8))=false:=X;clear X;have hv:nE 3 0 I 0 n ob (decide (oo=3)||decide (oo=7)) os tv true=0:=by simp[nE,U,L,show ¬3<1 by omega,show ¬9<3 by omega,show ¬I<0 by omega,show ¬8≤I by omega]
                case' q39=>
                  have ar:=Bool.eq_false_iff.mpr ar;subst ar;have ae:(x4.toList !=([]:List UInt8))=true:=X;clear X;have hv:nE 3 0 I 0 n ob (decide (oo=3)||decide (oo=7)) os tv false=6:=by simp[nE,U,L,show ¬3<1 by omega,show ¬9<3 by omega,show ¬I<0 by omega,show ¬8≤I by omega]
              case' q40=>
                have aw:(Z==0)=false:=beq_eq_false_iff_ne.mpr nz;have ay:(Z !=0)=true:=bne_iff_ne.mpr nz;have hv:nE 3 0 I Z n ob (decide (oo=3)||decide (oo=7)) os tv em=16:=by simp[nE,U,L,show ¬3<1 by omega,show ¬9<3 by omega,show ¬I<0 by omega,show ¬8≤I by omega,nz]
        case' q48=>
          have aK:(G==3)=false:=beq_eq_false_iff_ne.mpr k3;have aP:(G !=3)=true:=bne_iff_ne.mpr k3;refine if c0:I=0 then ?p47 else ?q47
          case' p47=>
            subst I;refine if nz:Z=0 then ?p46 else ?q46
            case' p46=>
              subst Z;refine if n4:G=4 then ?p45 else ?q45
              case' p45=>
                subst G;obtain⟨c3,c4,hw⟩:=ax.out (by omega);have az:=mk0 hw;clear hw;refine if an:tv=true then ?p43 else ?q43
                case' p43=>
                  subst an;have hv:nE 4 0 0 0 n ob (decide (oo=3)||decide (oo=7)) os true em=0:=by simp[nE,U,L,show ¬4<1 by omega,show ¬9<4 by omega,k3]
                case' q43=>
                  have an:=Bool.eq_false_iff.mpr an;subst an;have hv:nE 4 0 0 0 n ob (decide (oo=3)||decide (oo=7)) os false em=6:=by simp[nE,U,L,show ¬4<1 by omega,show ¬9<4 by omega,k3]
              case' q45=>
                have aR:(G==4)=false:=beq_eq_false_iff_ne.mpr n4;have aS:(G !=4)=true:=bne_iff_ne.mpr n4;refine if av:em=true then ?p44 else ?q44
                case' p44=>
                  subst av;have ae:(x4.toList !=([]:List UInt8))=false:=X;clear X;have hv:nE G 0 0 0 n ob (decide (oo=3)||decide (oo=7)) os tv true=0:=by simp[nE,U,L,show ¬G<1 by omega,show ¬9<G by omega,k3,n4]
                case' q44=>
                  have av:=Bool.eq_false_iff.mpr av;subst av;have ae:(x4.toList !=([]:List UInt8))=true:=X;clear X;have hv:nE G 0 0 0 n ob (decide (oo=3)||decide (oo=7)) os tv false=6:=by simp[nE,U,L,show ¬G<1 by omega,show ¬9<G by omega,k3,n4]
            case' q46=>
              have aw:(Z==0)=false:=beq_eq_false_iff_ne.mpr nz;have ay:(Z !=0)=true:=bne_iff_ne.mpr nz;have hv:nE G 0 0 Z n ob (decide (oo=3)||decide (oo=7)) os tv em=16:=by simp[nE,U,L,show ¬G<1 by omega,show ¬9<G by omega,k3,nz]
          case' q47=>
            have aO:(I==0)=false:=beq_eq_false_iff_ne.mpr c0;have aQ:(I !=0)=true:=bne_iff_ne.mpr c0;have hv:nE G 0 I Z n ob (decide (oo=3)||decide (oo=7)) os tv em=16:=by simp[nE,U,L,show ¬G<1 by omega,show ¬9<G by omega,k3,c0]
      case' q61=>
        have aW:(Y==0)=false:=beq_eq_false_iff_ne.mpr s0;have aV:(Y !=0)=true:=bne_iff_ne.mpr s0;refine if n1:Y≥n then ?p60 else ?q60
        case' p60=>
          have aM:decide (Y≥n)=true:=decide_eq_true n1;have hv:nE G Y I Z n ob (decide (oo=3)||decide (oo=7)) os tv em=16:=by simp[nE,U,L,show ¬G<1 by omega,show ¬9<G by omega,s0,show n≤Y by omega]
        case' q60=>
          have aM:decide (Y≥n)=false:=decide_eq_false n1;refine if au:ob=true then ?p49 else ?q49
          case' p49=>
            subst au;refine if k3:G=3 then ?p59 else ?q59
            case' p59=>
              subst G;refine if c1x:I<0 then ?p53 else ?q53
              case' p53=>
                have ak:decide (I<0)=true:=decide_eq_true c1x;have hv:nE 3 Y I Z n true (decide (oo=3)||decide (oo=7)) os tv em=16:=by simp[nE,U,L,show ¬3<1 by omega,show ¬9<3 by omega,s0,show ¬n≤Y by omega,show I<0 by omega]
              case' q53=>
                have ak:decide (I<0)=false:=decide_eq_false c1x;refine if c8x:I≥8 then ?p52 else ?q52
                case' p52=>
                  have al:decide (I≥8)=true:=decide_eq_true c8x;have hv:nE 3 Y I Z n true (decide (oo=3)||decide (oo=7)) os tv em=16:=by simp[nE,U,L,show ¬3<1 by omega,show ¬9<3 by omega,s0,show ¬n≤Y by omega,show ¬I<0 by omega,show 8≤I by omega]
                case' q52=>
                  have al:decide (I≥8)=false:=decide_eq_false c8x;refine if nz:Z=0 then ?p51 else ?q51
                  case' p51=>
                    subst Z;refine if ao:em=true then ?p50 else ?q50
                    case' p50=>
                      subst ao;have ae:(x4.toList !=([]:List UInt8))=false:=X;clear X;have hv:nE 3 Y I 0 n true (decide (oo=3)||decide (oo=7)) os tv true=0:=by simp[nE,U,L,show ¬3<1 by omega,show ¬9<3 by omega,s0,show ¬n≤Y by omega,show ¬I<0 by omega,show ¬8≤I by omega]
                    case' q50=>
                      have ao:=Bool.eq_false_iff.mpr ao;subst ao;have ae:(x4.toList !=([]:List UInt8))=true:=X;clear X;have hv:nE 3 Y I 0 n true (decide (oo=3)||decide (oo=7)) os tv false=6:=by simp[nE,U,L,show ¬3<1 by omega,show ¬9<3 by omega,s0,show ¬n≤Y by omega,show ¬I<0 by omega,show ¬8≤I by omega]
                  case' q51=>
                    have aw:(Z==0)=false:=beq_eq_false_iff_ne.mpr nz;have ay:(Z !=0)=true:=bne_iff_ne.mpr nz;have hv:nE 3 Y I Z n true (decide (oo=3)||decide (oo=7)) os tv em=16:=by simp[nE,U,L,show ¬3<1 by omega,show ¬9<3 by omega,s0,show ¬n≤Y by omega,show ¬I<0 by omega,show ¬8≤I by omega,nz]
            case' q59=>
              have aK:(G==3)=false:=beq_eq_false_iff_ne.mpr k3;have aP:(G !=3)=true:=bne_iff_ne.mpr k3;refine if c0:I=0 then ?p58 else ?q58
              case' p58=>
                subst I;refine if nz:Z=0 then ?p57 else ?q57
                case' p57=>
                  subst Z;refine if n4:G=4 then ?p56 else ?q56
                  case' p56=>
                    subst G;obtain⟨c3,c4,hw⟩:=ax.out (by omega);have az:=mk0 hw;clear hw;refine if ap:tv=true then ?p54 else ?q54
                    case' p54=>
                      subst ap;have hv:nE 4 Y 0 0 n true (decide (oo=3)||decide (oo=7)) os true em=0:=by simp[nE,U,L,show ¬4<1 by omega,show ¬9<4 by omega,s0,show ¬n≤Y by omega,k3]
                    case' q54=>
                      have ap:=Bool.eq_false_iff.mpr ap;subst ap;have hv:nE 4 Y 0 0 n true (decide (oo=3)||decide (oo=7)) os false em=6:=by simp[nE,U,L,show ¬4<1 by omega,show ¬9<4 by omega,s0,show ¬n≤Y by omega,k3]
                  case' q56=>
                    have aR:(G==4)=false:=beq_eq_false_iff_ne.mpr n4;have aS:(G !=4)=true:=bne_iff_ne.mpr n4;refine if am:em=true then ?p55 else ?q55
                    case' p55=>
                      subst am;have ae:(x4.toList !=([]:List UInt8))=false:=X;clear X;have hv:nE G Y 0 0 n true (decide (oo=3)||decide (oo=7)) os tv true=0:=by simp[nE,U,L,show ¬G<1 by omega,show ¬9<G by omega,s0,show ¬n≤Y by omega,k3,n4]
                    case' q55=>
                      have am:=Bool.eq_false_iff.mpr am;subst am;have ae:(x4.toList !=([]:List UInt8))=true:=X;clear X;have hv:nE G Y 0 0 n true (decide (oo=3)||decide (oo=7)) os tv false=6:=by simp[nE,U,L,show ¬G<1 by omega,show ¬9<G by omega,s0,show ¬n≤Y by omega,k3,n4]
                case' q57=>
                  have aw:(Z==0)=false:=beq_eq_false_iff_ne.mpr nz;have ay:(Z !=0)=true:=bne_iff_ne.mpr nz;have hv:nE G Y 0 Z n true (decide (oo=3)||decide (oo=7)) os tv em=16:=by simp[nE,U,L,show ¬G<1 by omega,show ¬9<G by omega,s0,show ¬n≤Y by omega,k3,nz]
              case' q58=>
                have aO:(I==0)=false:=beq_eq_false_iff_ne.mpr c0;have aQ:(I !=0)=true:=bne_iff_ne.mpr c0;have hv:nE G Y I Z n true (decide (oo=3)||decide (oo=7)) os tv em=16:=by simp[nE,U,L,show ¬G<1 by omega,show ¬9<G by omega,s0,show ¬n≤Y by omega,k3,c0]
          case' q49=>
            have au:=Bool.eq_false_iff.mpr au;subst au;have hv:nE G Y I Z n false (decide (oo=3)||decide (oo=7)) os tv em=16:=by simp[nE,U,L,show ¬G<1 by omega,show ¬9<G by omega,s0,show ¬n≤Y by omega]
  all_goals
    go_enter Tryz.func28,Tryz.ntmps28
    go_wp2_with(first|(go_at_call 31;(with_reducible refine(kV.calls a0 _ _ l1 _ _ l2 _ _ _ (Kd.iT ai.out (by repeat(first|exact D.out|apply eP|apply eX|apply eZ))) ah.out (Kd.iT ag.out (by repeat(first|exact D.out|apply eP|apply eX|apply eZ))) af.out aB.out).mono ?_);rintro e w9⟨rfl,ab⟩;have n0:=Bx.below (by repeat(first|exact aa.out|apply Bx.drewN|apply Bx.drew)) ab;clear aa D;have aa:=mk0 n0;have D:=mk0 n0.low;obtain⟨g5,g6,g7⟩:=qO n0.1.out;obtain⟨q0,q1,q2,q3,q4⟩:=kT n0.2.1.out;clear n0 ab)|(go_at_call 48;(with_reducible refine(iL.calls a0 _ _ l1 _ _ l2 _ _ _ (Kd.iT ai.out (by repeat(first|exact D.out|apply eP|apply eX|apply eZ))) ah.out (Kd.iT ag.out (by repeat(first|exact D.out|apply eP|apply eX|apply eZ))) af.out aC.out).mono ?_);rintro e w9⟨rfl,ab⟩;have n0:=Bx.below (by repeat(first|exact aa.out|apply Bx.drewN|apply Bx.drew)) ab;clear aa D;have aa:=mk0 n0;have D:=mk0 n0.low;obtain⟨g5,g6,g7⟩:=qO n0.1.out;obtain⟨q0,q1,q2,q3,q4⟩:=kT n0.2.1.out;clear n0 ab;try have u1:=HU1.out _ D.out)|(go_at_call 49;(with_reducible refine(iJ.calls _ a0 _ _ l1 _ _ l2 _ _ _ _ _ (Kd.iT ai.out (by repeat(first|exact D.out|apply eP|apply eX|apply eZ))) ah.out (Kd.iT ag.out (by repeat(first|exact D.out|apply eP|apply eX|apply eZ))) af.out az.out).mono ?_);rintro e w8⟨rfl,aj⟩;have n0:=mk0 (kg (by repeat(first|exact D.out|apply eP|apply eX|apply eZ)) aj);clear D;have D:=n0;clear n0 aj))
    repeat(go_quiet(fail);try go_wp2_with(first|(go_at_call 31;(with_reducible refine(kV.calls a0 _ _ l1 _ _ l2 _ _ _ (Kd.iT ai.out (by repeat(first|exact D.out|apply eP|apply eX|apply eZ))) ah.out (Kd.iT ag.out (by repeat(first|exact D.out|apply eP|apply eX|apply eZ))) af.out aB.out).mono ?_);rintro e w9⟨rfl,ab⟩;have n0:=Bx.below (by repeat(first|exact aa.out|apply Bx.drewN|apply Bx.drew)) ab;clear aa D;have aa:=mk0 n0;have D:=mk0 n0.low;obtain⟨g5,g6,g7⟩:=qO n0.1.out;obtain⟨q0,q1,q2,q3,q4⟩:=kT n0.2.1.out;clear n0 ab)|(go_at_call 48;(with_reducible refine(iL.calls a0 _ _ l1 _ _ l2 _ _ _ (Kd.iT ai.out (by repeat(first|exact D.out|apply eP|apply eX|apply eZ))) ah.out (Kd.iT ag.out (by repeat(first|exact D.out|apply eP|apply eX|apply eZ))) af.out aC.out).mono ?_);rintro e w9⟨rfl,ab⟩;have n0:=Bx.below (by repeat(first|exact aa.out|apply Bx.drewN|apply Bx.drew)) ab;clear aa D;have aa:=mk0 n0;have D:=mk0 n0.low;obtain⟨g5,g6,g7⟩:=qO n0.1.out;obtain⟨q0,q1,q2,q3,q4⟩:=kT n0.2.1.out;clear n0 ab;try have u1:=HU1.out _ D.out)|(go_at_call 49;(with_reducible refine(iJ.calls _ a0 _ _ l1 _ _ l2 _ _ _ _ _ (Kd.iT ai.out (by repeat(first|exact D.out|apply eP|apply eX|apply eZ))) ah.out (Kd.iT ag.out (by repeat(first|exact D.out|apply eP|apply eX|apply eZ))) af.out az.out).mono ?_);rintro e w8⟨rfl,aj⟩;have n0:=mk0 (kg (by repeat(first|exact D.out|apply eP|apply eX|apply eZ)) aj);clear D;have D:=n0;clear n0 aj)))
    go_ret
    exact⟨by first|rfl|exact congrArg (fun z=>Ending.returned (Value.int .i64 z)) hv.symm,by repeat(first|exact D.out|apply eP|apply eX|apply eZ)⟩
end Go.Proofs.Gr
namespace Go.Proofs.Y
open RowKit Lib PW PL PM Gr
def iZ.f(k:Nat)(L:ByteArray)(D:List S38)(I:List S40)(G:Int):Option Int:=
  if(decide (D.length≤1000000)&&decide (inL D G)&&decide ((nd D G).f4.size≤1000))=true then some (r9 D G (nd D G))else none
theorem iZ.mono:∀G L I D k,LeO (iZ.f k G L I D) (iZ.f (k+1) G L I D):=fun _ _ _ _ _=>LeO.refl _
theorem iZ.calls(k:Nat)(U:ByteArray)(L:Option Addr)(X:Nat)(D:List (S38))(Y:Option Addr)(I:Nat)(G:List (S40))(a1:Int)(r:Int)(w:World)(ae:Kd.C k38 w L D.length D)(aa:D.length≤X)(ab:Kd.C k40 w Y G.length G)(Z:G.length≤I)(h:iZ.f k U D G a1=some r):
    Calls Tryz.prog 28 #[.agg #[.string U, .slice L D.length X, .slice Y G.length I], .int .i64 a1] w fun e w'=>e= .returned (.int .i64 r)∧Below w.heap.size w w':=by
  unfold iZ.f at h
  split at h
  case isFalse=>cases h
  rename_i hc
  simp only[Bool.and_eq_true,decide_eq_true_eq]at hc;obtain⟨⟨hl,hn⟩,ha⟩:=hc;rw[←Option.some.inj h];by_cases h8:(nd D a1).f0=8
  · exact Ju U L X D Y I G a1 w hl ae aa ab Z hn ha h8
  · by_cases h9:(nd D a1).f0=9
    · exact Jk U L X D Y I G a1 w hl ae aa ab Z hn ha h9
    · exact Jt U L X D Y I G a1 w hl ae aa ab Z hn ha h8 h9
end Go.Proofs.Y
