/- The reference's node, walked by hand (written by wip/tools/gen_rn.py). -/
import Derived.Test.YtcaegaljhogbjaaGreatDoorNodeE
set_option linter.unusedSimpArgs false
set_option linter.unusedVariables false
set_option maxHeartbeats 32000000
set_option maxRecDepth 100000
namespace Go.Proofs.Gr
open RowKit Lib Go.Sort PW PL PM Y Gd
theorem Ju (a0:ByteArray) (A1:Option Addr) (c1:Nat) (l1:List S38) (A2:Option Addr) (c2:Nat) (l2:List S40) (n:Int) (w:World)
    (hl:l1.length≤1000000) (an:Kd.C k38 w A1 l1.length l1) (av:l1.length≤c1) (ay:Kd.C k40 w A2 l2.length l2) (aq:l2.length≤c2) (hn:inL l1 n) (ha:(nd l1 n).f4.size≤1000) (hg:(nd l1 n).f0=8):
    Calls Tryz.prog 28 #[.agg #[.string a0, .slice A1 l1.length c1, .slice A2 l2.length c2], .int .i64 n] w fun e w'=>e= .returned (.int .i64 (r9 l1 n (nd l1 n)))∧Below w.heap.size w w':=by
  obtain⟨aD,p,q⟩:=zw hl hn;clear aD;have hw:=yV (s:=a0) (l2:=l2) hl hn;have e1:=vT (s:=a0) (l2:=l2) hl (nd l1 n).f1;rw[←uF]at e1;have e2:=rV (s:=a0) (l2:=l2) hl (nd l1 n).f3;rw[←uF]at e2
  have f3:(atS l1 (nd l1 n).f3).f0≠0→0≤wrap64 ((nd l1 n).f3-1)∧wrap64 ((nd l1 n).f3-1)<(l1.length:Int)∧(atS l1 (nd l1 n).f3).f1=(iH l1 (wrap64 ((nd l1 n).f3-1))).f1:=fun h=>by
    rw[uF]at h
    have hi:=vQ h
    obtain⟨_,a,b⟩:=zw hl hi
    exact⟨a,b,by rw[BQ hi];rfl⟩
  rw[y8,show decide ((atS l1 (nd l1 n).f3).f0=3∨(atS l1 (nd l1 n).f3).f0=7)=(decide ((atS l1 (nd l1 n).f3).f0=3)||decide ((atS l1 (nd l1 n).f3).f0=7))from Bool.decide_or _ _];unfold nd at*;have aO:(IntKind.i64.wrap (n-1))=wrap64 (n-1):=kZ _;generalize wrap64 (n-1)=j at*;obtain⟨ad,e,az,_,_,_,_⟩:=tH an j p q;subst e;have ah:=mk0 an;have af:=mk0 ay;have ag:=mk0 av;have ae:=mk0 aq;have aB:=World.block_lt_of_cell? w _ az;have aN:(ad.add (j.toNat*5)).block≠w.heap.size:=Nat.ne_of_lt aB;have p':=eq_true p;have q':=eq_true q;generalize iH l1 j=x at*;obtain⟨x0,I,x2,G,x4⟩:=x;dsimp only at*;subst x0;have ak:=mk0 (fun h=>hw h ha 5003 (Nat.le_refl _));obtain⟨tv,aw⟩:∃b,xg ⟨8,I,x2,G,x4⟩=b:=⟨_,rfl⟩
  obtain⟨Z,ax⟩:∃b,(x4.toList==([]:List UInt8))=b:=⟨_,rfl⟩
  have aJ:(x4.toList !=([]:List UInt8))= !Z:=by rw[←ax];rfl
  rw[aw]at ak⊢;rw[ax];generalize(atS l1 I).f0=sk at*;generalize(atS l1 G).f0=oo at*;generalize(atS l1 G).f1=os at*;have aK:(IntKind.i64.wrap (G-1))=wrap64 (G-1):=kZ _;generalize wrap64 (G-1)=jo at*;generalize opn sk=ob at*;have ar:=mk0 e1;have au:=mk0 e2
  have HU:=mk0 (fun h=>by
    obtain⟨a,b,c⟩:=f3 h
    obtain⟨_,e,_,u1,_⟩:=tH an jo a b
    obtain rfl:=Option.some.inj e
    rw[←c]at u1
    exact(show(0≤jo∧jo<(l1.length:Int))∧w.cell? ⟨(ad.add (jo.toNat*5)).block,(ad.add (jo.toNat*5)).off+1,none⟩=some (.int .i64 os)from⟨⟨a,b⟩,u1⟩))
  clear an ay av aq e1 e2 f3 hw hl hn ha aw;have L:=mk0 (Bx.new w #[.string a0, .slice (some ad) l1.length c1, .slice A2 l2.length c2] 25 #[.int .i64 8, .int .i64 I, .int .i64 x2, .int .i64 G, .string x4] 38);have D:=mk0 L.out.low;obtain⟨_,_,_⟩:=qO L.out.1.out;obtain⟨_,_,_,_,_⟩:=kT L.out.2.1.out;refine if s0:I=0 then ?p19 else ?q19
  case' p19=>
    subst I;refine if c0:x2=0 then ?p8 else ?q8
    case' p8=>
      subst x2;refine if n3:G<n then ?p7 else ?q7
      case' p7=>
        have ap:decide (G<n)=true:=decide_eq_true n3;refine if o3:oo=3 then ?p6 else ?q6
        case' p6=>
          subst oo;obtain⟨⟨r1,r2⟩,hu⟩:=HU.out (by decide);replace r1:=eq_true r1;replace r2:=eq_true r2;have aj:=mk0 (fun W (hW:Below w.heap.size w W)=>(hW.cell (World.block_lt_of_cell? w _ hu)).trans hu);clear hu;refine if ns:os=0 then ?p2 else ?q2
          case' p2=>
            have aa:(os==0)=true:=beq_iff_eq.mpr ns;have ab:(os !=0)=false:=bne_eq_false_iff_eq.mpr ns;have X:=mk0 ns;clear ns;obtain⟨c3,c4,hw⟩:=ak.out (by omega);have al:=mk0 hw;clear hw;refine if e1:tv=true then ?p1 else ?q1
            case' p1=>
              subst e1;have hv:nE 8 0 0 G n ob (decide (3=3)||decide (3=7)) os true Z=0:=by simp[nE,show G<n by omega,X.out]
            case' q1=>
              have e1:=Bool.eq_false_iff.mpr e1;subst e1;have hv:nE 8 0 0 G n ob (decide (3=3)||decide (3=7)) os false Z=6:=by simp[nE,show G<n by omega,X.out]
          case' q2=>
            have aa:(os==0)=false:=beq_eq_false_iff_ne.mpr ns;have ab:(os !=0)=true:=bne_iff_ne.mpr ns;have hv:nE 8 0 0 G n ob (decide (3=3)||decide (3=7)) os tv Z=16:=by simp[nE,show G<n by omega,ns]
        case' q6=>
          have aF:(oo==3)=false:=beq_eq_false_iff_ne.mpr o3;have aA:(oo !=3)=true:=bne_iff_ne.mpr o3;refine if o7:oo=7 then ?p5 else ?q5
          case' p5=>
            subst oo;obtain⟨⟨r1,r2⟩,hu⟩:=HU.out (by decide);replace r1:=eq_true r1;replace r2:=eq_true r2;have aj:=mk0 (fun W (hW:Below w.heap.size w W)=>(hW.cell (World.block_lt_of_cell? w _ hu)).trans hu);clear hu;refine if ns:os=0 then ?p4 else ?q4
            case' p4=>
              have aa:(os==0)=true:=beq_iff_eq.mpr ns;have ab:(os !=0)=false:=bne_eq_false_iff_eq.mpr ns;have X:=mk0 ns;clear ns;obtain⟨c3,c4,hw⟩:=ak.out (by omega);have al:=mk0 hw;clear hw;refine if e3:tv=true then ?p3 else ?q3
              case' p3=>
                subst e3;have hv:nE 8 0 0 G n ob (decide (7=3)||decide (7=7)) os true Z=0:=by simp[nE,show G<n by omega,o3,X.out]
              case' q3=>
                have e3:=Bool.eq_false_iff.mpr e3;subst e3;have hv:nE 8 0 0 G n ob (decide (7=3)||decide (7=7)) os false Z=6:=by simp[nE,show G<n by omega,o3,X.out]
            case' q4=>
              have aa:(os==0)=false:=beq_eq_false_iff_ne.mpr ns;have ab:(os !=0)=true:=bne_iff_ne.mpr ns;have hv:nE 8 0 0 G n ob (decide (7=3)||decide (7=7)) os tv Z=16:=by simp[nE,show G<n by omega,o3,ns]
          case' q5=>
            have aE:(oo==7)=false:=beq_eq_false_iff_ne.mpr o7;have aI:(oo !=7)=true:=bne_iff_ne.mpr o7;have hv:nE 8 0 0 G n ob (decide (oo=3)||decide (oo=7)) os tv Z=16:=by simp[nE,show G<n by omega,o3,o7]
      case' q7=>
        have ap:decide (G<n)=false:=decide_eq_false n3;have hv:nE 8 0 0 G n ob (decide (oo=3)||decide (oo=7)) os tv Z=16:=by simp[nE,show ¬G<n by omega]
    case' q8=>
      have aG:(x2==0)=false:=beq_eq_false_iff_ne.mpr c0;have aH:(x2 !=0)=true:=bne_iff_ne.mpr c0;have hv:nE 8 0 x2 G n ob (decide (oo=3)||decide (oo=7)) os tv Z=16:=by simp[nE,c0]
  case' q19=>
    have aM:(I==0)=false:=beq_eq_false_iff_ne.mpr s0;have aL:(I !=0)=true:=bne_iff_ne.mpr s0;refine if n1:I≥n then ?p18 else ?q18
    case' p18=>
      have aC:decide (I≥n)=true:=decide_eq_true n1;have hv:nE 8 I x2 G n ob (decide (oo=3)||decide (oo=7)) os tv Z=16:=by simp[nE,s0,show n≤I by omega]
    case' q18=>
      have aC:decide (I≥n)=false:=decide_eq_false n1;refine if e9:ob=true then ?p9 else ?q9
      case' p9=>
        subst e9;refine if c0:x2=0 then ?p17 else ?q17
        case' p17=>
          subst x2;refine if n3:G<n then ?p16 else ?q16
          case' p16=>
            have ap:decide (G<n)=true:=decide_eq_true n3;refine if o3:oo=3 then ?p15 else ?q15
            case' p15=>
              subst oo;obtain⟨⟨r1,r2⟩,hu⟩:=HU.out (by decide);replace r1:=eq_true r1;replace r2:=eq_true r2;have aj:=mk0 (fun W (hW:Below w.heap.size w W)=>(hW.cell (World.block_lt_of_cell? w _ hu)).trans hu);clear hu;refine if ns:os=I then ?p11 else ?q11
              case' p11=>
                have aa:(os==I)=true:=beq_iff_eq.mpr ns;have ab:(os !=I)=false:=bne_eq_false_iff_eq.mpr ns;have X:=mk0 ns;clear ns;obtain⟨c3,c4,hw⟩:=ak.out (by omega);have al:=mk0 hw;clear hw;refine if am:tv=true then ?p10 else ?q10
                case' p10=>
                  subst am;have hv:nE 8 I 0 G n true (decide (3=3)||decide (3=7)) os true Z=0:=by simp[nE,s0,show ¬n≤I by omega,show G<n by omega,X.out]
                case' q10=>
                  have am:=Bool.eq_false_iff.mpr am;subst am;have hv:nE 8 I 0 G n true (decide (3=3)||decide (3=7)) os false Z=6:=by simp[nE,s0,show ¬n≤I by omega,show G<n by omega,X.out]
              case' q11=>
                have aa:(os==I)=false:=beq_eq_false_iff_ne.mpr ns;have ab:(os !=I)=true:=bne_iff_ne.mpr ns;have hv:nE 8 I 0 G n true (decide (3=3)||decide (3=7)) os tv Z=16:=by simp[nE,s0,show ¬n≤I by omega,show G<n by omega,ns]
            case' q15=>
              have aF:(oo==3)=false:=beq_eq_false_iff_ne.mpr o3;have aA:(oo !=3)=true:=bne_iff_ne.mpr o3;refine if o7:oo=7 then ?p14 else ?q14
              case' p14=>
                subst oo;obtain⟨⟨r1,r2⟩,hu⟩:=HU.out (by decide);replace r1:=eq_true r1;replace r2:=eq_true r2;have aj:=mk0 (fun W (hW:Below w.heap.size w W)=>(hW.cell (World.block_lt_of_cell? w _ hu)).trans hu);clear hu;refine if ns:os=I then ?p13 else ?q13
                case' p13=>
                  have aa:(os==I)=true:=beq_iff_eq.mpr ns;have ab:(os !=I)=false:=bne_eq_false_iff_eq.mpr ns;have X:=mk0 ns;clear ns;obtain⟨c3,c4,hw⟩:=ak.out (by omega);have al:=mk0 hw;clear hw;refine if ao:tv=true then ?p12 else ?q12
                  case' p12=>
                    subst ao;have hv:nE 8 I 0 G n true (decide (7=3)||decide (7=7)) os true Z=0:=by simp[nE,s0,show ¬n≤I by omega,show G<n by omega,o3,X.out]
                  case' q12=>
                    have ao:=Bool.eq_false_iff.mpr ao;subst ao;have hv:nE 8 I 0 G n true (decide (7=3)||decide (7=7)) os false Z=6:=by simp[nE,s0,show ¬n≤I by omega,show G<n by omega,o3,X.out]
                case' q13=>
                  have aa:(os==I)=false:=beq_eq_false_iff_ne.mpr ns;have ab:(os !=I)=true:=bne_iff_ne.mpr ns;have hv:nE 8 I 0 G n true (decide (7=3)||decide (7=7)) os tv Z=16:=by simp[nE,s0,show ¬n≤I by omega,show G<n by omega,o3,ns]
              case' q14=>
                have aE:(oo==7)=false:=beq_eq_false_iff_ne.mpr o7;have aI:(oo !=7)=true:=bne_iff_ne.mpr o7;have hv:nE 8 I 0 G n true (decide (oo=3)||decide (oo=7)) os tv Z=16:=by simp[nE,s0,show ¬n≤I by omega,show G<n by omega,o3,o7]
          case' q16=>
            have ap:decide (G<n)=false:=decide_eq_false n3;have hv:nE 8 I 0 G n true (decide (oo=3)||decide (oo=7)) os tv Z=16:=by simp[nE,s0,show ¬n≤I by omega,show ¬G<n by omega]
        case' q17=>
          have aG:(x2==0)=false:=beq_eq_false_iff_ne.mpr c0;have aH:(x2 !=0)=true:=bne_iff_ne.mpr c0;have hv:nE 8 I x2 G n true (decide (oo=3)||decide (oo=7)) os tv Z=16:=by simp[nE,s0,show ¬n≤I by omega,c0]
      case' q9=>
        have e9:=Bool.eq_false_iff.mpr e9;subst e9;have hv:nE 8 I x2 G n false (decide (oo=3)||decide (oo=7)) os tv Z=16:=by simp[nE,s0,show ¬n≤I by omega]
  all_goals
    go_enter Tryz.func28,Tryz.ntmps28
    go_wp2_with(first|(go_at_call 31;(with_reducible refine(kV.calls a0 _ _ l1 _ _ l2 _ _ _ (Kd.iT ah.out (by repeat(first|exact D.out|apply eP|apply eX|apply eZ))) ag.out (Kd.iT af.out (by repeat(first|exact D.out|apply eP|apply eX|apply eZ))) ae.out ar.out).mono ?_);rintro e w9⟨rfl,Y⟩;have U:=Bx.below (by repeat(first|exact L.out|apply Bx.drewN|apply Bx.drew)) Y;clear L D;have L:=mk0 U;have D:=mk0 U.low;obtain⟨g5,g6,g7⟩:=qO U.1.out;obtain⟨q0,q1,q2,q3,q4⟩:=kT U.2.1.out;clear U Y)|(go_at_call 48;(with_reducible refine(iL.calls a0 _ _ l1 _ _ l2 _ _ _ (Kd.iT ah.out (by repeat(first|exact D.out|apply eP|apply eX|apply eZ))) ag.out (Kd.iT af.out (by repeat(first|exact D.out|apply eP|apply eX|apply eZ))) ae.out au.out).mono ?_);rintro e w9⟨rfl,Y⟩;have U:=Bx.below (by repeat(first|exact L.out|apply Bx.drewN|apply Bx.drew)) Y;clear L D;have L:=mk0 U;have D:=mk0 U.low;obtain⟨g5,g6,g7⟩:=qO U.1.out;obtain⟨q0,q1,q2,q3,q4⟩:=kT U.2.1.out;clear U Y;try have u1:=aj.out _ D.out)|(go_at_call 49;(with_reducible refine(iJ.calls _ a0 _ _ l1 _ _ l2 _ _ _ _ _ (Kd.iT ah.out (by repeat(first|exact D.out|apply eP|apply eX|apply eZ))) ag.out (Kd.iT af.out (by repeat(first|exact D.out|apply eP|apply eX|apply eZ))) ae.out al.out).mono ?_);rintro e w8⟨rfl,ai⟩;have U:=mk0 (kg (by repeat(first|exact D.out|apply eP|apply eX|apply eZ)) ai);clear D;have D:=U;clear U ai))
    repeat(go_quiet(fail);try go_wp2_with(first|(go_at_call 31;(with_reducible refine(kV.calls a0 _ _ l1 _ _ l2 _ _ _ (Kd.iT ah.out (by repeat(first|exact D.out|apply eP|apply eX|apply eZ))) ag.out (Kd.iT af.out (by repeat(first|exact D.out|apply eP|apply eX|apply eZ))) ae.out ar.out).mono ?_);rintro e w9⟨rfl,Y⟩;have U:=Bx.below (by repeat(first|exact L.out|apply Bx.drewN|apply Bx.drew)) Y;clear L D;have L:=mk0 U;have D:=mk0 U.low;obtain⟨g5,g6,g7⟩:=qO U.1.out;obtain⟨q0,q1,q2,q3,q4⟩:=kT U.2.1.out;clear U Y)|(go_at_call 48;(with_reducible refine(iL.calls a0 _ _ l1 _ _ l2 _ _ _ (Kd.iT ah.out (by repeat(first|exact D.out|apply eP|apply eX|apply eZ))) ag.out (Kd.iT af.out (by repeat(first|exact D.out|apply eP|apply eX|apply eZ))) ae.out au.out).mono ?_);rintro e w9⟨rfl,Y⟩;have U:=Bx.below (by repeat(first|exact L.out|apply Bx.drewN|apply Bx.drew)) Y;clear L D;have L:=mk0 U;have D:=mk0 U.low;obtain⟨g5,g6,g7⟩:=qO U.1.out;obtain⟨q0,q1,q2,q3,q4⟩:=kT U.2.1.out;clear U Y;try have u1:=aj.out _ D.out)|(go_at_call 49;(with_reducible refine(iJ.calls _ a0 _ _ l1 _ _ l2 _ _ _ _ _ (Kd.iT ah.out (by repeat(first|exact D.out|apply eP|apply eX|apply eZ))) ag.out (Kd.iT af.out (by repeat(first|exact D.out|apply eP|apply eX|apply eZ))) ae.out al.out).mono ?_);rintro e w8⟨rfl,ai⟩;have U:=mk0 (kg (by repeat(first|exact D.out|apply eP|apply eX|apply eZ)) ai);clear D;have D:=U;clear U ai)))
    go_ret
    exact⟨by first|rfl|exact congrArg (fun z=>Ending.returned (Value.int .i64 z)) hv.symm,by repeat(first|exact D.out|apply eP|apply eX|apply eZ)⟩
theorem Jk (a0:ByteArray) (A1:Option Addr) (c1:Nat) (l1:List S38) (A2:Option Addr) (c2:Nat) (l2:List S40) (n:Int) (w:World)
    (hl:l1.length≤1000000) (ap:Kd.C k38 w A1 l1.length l1) (ay:l1.length≤c1) (aB:Kd.C k40 w A2 l2.length l2) (av:l2.length≤c2) (hn:inL l1 n) (ha:(nd l1 n).f4.size≤1000) (hg:(nd l1 n).f0=9):
    Calls Tryz.prog 28 #[.agg #[.string a0, .slice A1 l1.length c1, .slice A2 l2.length c2], .int .i64 n] w fun e w'=>e= .returned (.int .i64 (r9 l1 n (nd l1 n)))∧Below w.heap.size w w':=by
  obtain⟨aG,p,q⟩:=zw hl hn;clear aG;have hw:=yV (s:=a0) (l2:=l2) hl hn;have e1:=vT (s:=a0) (l2:=l2) hl (nd l1 n).f1;rw[←uF]at e1;have e2:=rV (s:=a0) (l2:=l2) hl (nd l1 n).f3;rw[←uF]at e2
  have f3:(atS l1 (nd l1 n).f3).f0≠0→0≤wrap64 ((nd l1 n).f3-1)∧wrap64 ((nd l1 n).f3-1)<(l1.length:Int)∧(atS l1 (nd l1 n).f3).f1=(iH l1 (wrap64 ((nd l1 n).f3-1))).f1:=fun h=>by
    rw[uF]at h
    have hi:=vQ h
    obtain⟨_,a,b⟩:=zw hl hi
    exact⟨a,b,by rw[BQ hi];rfl⟩
  rw[y8,show decide ((atS l1 (nd l1 n).f3).f0=3∨(atS l1 (nd l1 n).f3).f0=7)=(decide ((atS l1 (nd l1 n).f3).f0=3)||decide ((atS l1 (nd l1 n).f3).f0=7))from Bool.decide_or _ _];unfold nd at*;have aR:(IntKind.i64.wrap (n-1))=wrap64 (n-1):=kZ _;generalize wrap64 (n-1)=j at*;obtain⟨ad,e,aC,_,_,_,_⟩:=tH ap j p q;subst e;have ah:=mk0 ap;have af:=mk0 aB;have ag:=mk0 ay;have ae:=mk0 av;have aE:=World.block_lt_of_cell? w _ aC;have aQ:(ad.add (j.toNat*5)).block≠w.heap.size:=Nat.ne_of_lt aE;have p':=eq_true p;have q':=eq_true q;generalize iH l1 j=x at*;obtain⟨x0,I,x2,G,x4⟩:=x;dsimp only at*;subst x0;have ak:=mk0 (fun h=>hw h ha 5003 (Nat.le_refl _));obtain⟨tv,az⟩:∃b,xg ⟨9,I,x2,G,x4⟩=b:=⟨_,rfl⟩
  obtain⟨Z,aA⟩:∃b,(x4.toList==([]:List UInt8))=b:=⟨_,rfl⟩
  have aM:(x4.toList !=([]:List UInt8))= !Z:=by rw[←aA];rfl
  rw[az]at ak⊢;rw[aA];generalize(atS l1 I).f0=sk at*;generalize(atS l1 G).f0=oo at*;generalize(atS l1 G).f1=os at*;have aN:(IntKind.i64.wrap (G-1))=wrap64 (G-1):=kZ _;generalize wrap64 (G-1)=jo at*;generalize opn sk=ob at*;have aw:=mk0 e1;have ax:=mk0 e2
  have HU:=mk0 (fun h=>by
    obtain⟨a,b,c⟩:=f3 h
    obtain⟨_,e,_,u1,_⟩:=tH ap jo a b
    obtain rfl:=Option.some.inj e
    rw[←c]at u1
    exact(show(0≤jo∧jo<(l1.length:Int))∧w.cell? ⟨(ad.add (jo.toNat*5)).block,(ad.add (jo.toNat*5)).off+1,none⟩=some (.int .i64 os)from⟨⟨a,b⟩,u1⟩))
  clear ap aB ay av e1 e2 f3 hw hl hn ha az;have L:=mk0 (Bx.new w #[.string a0, .slice (some ad) l1.length c1, .slice A2 l2.length c2] 25 #[.int .i64 9, .int .i64 I, .int .i64 x2, .int .i64 G, .string x4] 38);have D:=mk0 L.out.low;obtain⟨_,_,_⟩:=qO L.out.1.out;obtain⟨_,_,_,_,_⟩:=kT L.out.2.1.out;refine if s0:I=0 then ?p38 else ?q38
  case' p38=>
    subst I;refine if c0:x2=0 then ?p27 else ?q27
    case' p27=>
      subst x2;refine if n3:G<n then ?p26 else ?q26
      case' p26=>
        have au:decide (G<n)=true:=decide_eq_true n3;refine if o3:oo=3 then ?p25 else ?q25
        case' p25=>
          subst oo;obtain⟨⟨r1,r2⟩,hu⟩:=HU.out (by decide);replace r1:=eq_true r1;replace r2:=eq_true r2;have aj:=mk0 (fun W (hW:Below w.heap.size w W)=>(hW.cell (World.block_lt_of_cell? w _ hu)).trans hu);clear hu;refine if ns:os=0 then ?p21 else ?q21
          case' p21=>
            have aa:(os==0)=true:=beq_iff_eq.mpr ns;have ab:(os !=0)=false:=bne_eq_false_iff_eq.mpr ns;have X:=mk0 ns;clear ns;obtain⟨c3,c4,hw⟩:=ak.out (by omega);have al:=mk0 hw;clear hw;refine if aq:tv=true then ?p20 else ?q20
            case' p20=>
              subst aq;have hv:nE 9 0 0 G n ob (decide (3=3)||decide (3=7)) os true Z=0:=by simp[nE,show G<n by omega,X.out]
            case' q20=>
              have aq:=Bool.eq_false_iff.mpr aq;subst aq;have hv:nE 9 0 0 G n ob (decide (3=3)||decide (3=7)) os false Z=6:=by simp[nE,show G<n by omega,X.out]
          case' q21=>
            have aa:(os==0)=false:=beq_eq_false_iff_ne.mpr ns;have ab:(os !=0)=true:=bne_iff_ne.mpr ns;have hv:nE 9 0 0 G n ob (decide (3=3)||decide (3=7)) os tv Z=16:=by simp[nE,show G<n by omega,ns]
        case' q25=>
          have aI:(oo==3)=false:=beq_eq_false_iff_ne.mpr o3;have aD:(oo !=3)=true:=bne_iff_ne.mpr o3;refine if o7:oo=7 then ?p24 else ?q24
          case' p24=>
            subst oo;obtain⟨⟨r1,r2⟩,hu⟩:=HU.out (by decide);replace r1:=eq_true r1;replace r2:=eq_true r2;have aj:=mk0 (fun W (hW:Below w.heap.size w W)=>(hW.cell (World.block_lt_of_cell? w _ hu)).trans hu);clear hu;refine if ns:os=0 then ?p23 else ?q23
            case' p23=>
              have aa:(os==0)=true:=beq_iff_eq.mpr ns;have ab:(os !=0)=false:=bne_eq_false_iff_eq.mpr ns;have X:=mk0 ns;clear ns;obtain⟨c3,c4,hw⟩:=ak.out (by omega);have al:=mk0 hw;clear hw;refine if an:tv=true then ?p22 else ?q22
              case' p22=>
                subst an;have hv:nE 9 0 0 G n ob (decide (7=3)||decide (7=7)) os true Z=0:=by simp[nE,show G<n by omega,o3,X.out]
              case' q22=>
                have an:=Bool.eq_false_iff.mpr an;subst an;have hv:nE 9 0 0 G n ob (decide (7=3)||decide (7=7)) os false Z=6:=by simp[nE,show G<n by omega,o3,X.out]
            case' q23=>
              have aa:(os==0)=false:=beq_eq_false_iff_ne.mpr ns;have ab:(os !=0)=true:=bne_iff_ne.mpr ns;have hv:nE 9 0 0 G n ob (decide (7=3)||decide (7=7)) os tv Z=16:=by simp[nE,show G<n by omega,o3,ns]
          case' q24=>
            have aH:(oo==7)=false:=beq_eq_false_iff_ne.mpr o7;have aL:(oo !=7)=true:=bne_iff_ne.mpr o7;have hv:nE 9 0 0 G n ob (decide (oo=3)||decide (oo=7)) os tv Z=16:=by simp[nE,show G<n by omega,o3,o7]
      case' q26=>
        have au:decide (G<n)=false:=decide_eq_false n3;have hv:nE 9 0 0 G n ob (decide (oo=3)||decide (oo=7)) os tv Z=16:=by simp[nE,show ¬G<n by omega]
    case' q27=>
      have aJ:(x2==0)=false:=beq_eq_false_iff_ne.mpr c0;have aK:(x2 !=0)=true:=bne_iff_ne.mpr c0;have hv:nE 9 0 x2 G n ob (decide (oo=3)||decide (oo=7)) os tv Z=16:=by simp[nE,c0]
  case' q38=>
    have aP:(I==0)=false:=beq_eq_false_iff_ne.mpr s0;have aO:(I !=0)=true:=bne_iff_ne.mpr s0;refine if n1:I≥n then ?p37 else ?q37
    case' p37=>
      have aF:decide (I≥n)=true:=decide_eq_true n1;have hv:nE 9 I x2 G n ob (decide (oo=3)||decide (oo=7)) os tv Z=16:=by simp[nE,s0,show n≤I by omega]
    case' q37=>
      have aF:decide (I≥n)=false:=decide_eq_false n1;refine if ao:ob=true then ?p28 else ?q28
      case' p28=>
        subst ao;refine if c0:x2=0 then ?p36 else ?q36
        case' p36=>
          subst x2;refine if n3:G<n then ?p35 else ?q35
          case' p35=>
            have au:decide (G<n)=true:=decide_eq_true n3;refine if o3:oo=3 then ?p34 else ?q34
            case' p34=>
              subst oo;obtain⟨⟨r1,r2⟩,hu⟩:=HU.out (by decide);replace r1:=eq_true r1;replace r2:=eq_true r2;have aj:=mk0 (fun W (hW:Below w.heap.size w W)=>(hW.cell (World.block_lt_of_cell? w _ hu)).trans hu);clear hu;refine if ns:os=I then ?p30 else ?q30
              case' p30=>
                have aa:(os==I)=true:=beq_iff_eq.mpr ns;have ab:(os !=I)=false:=bne_eq_false_iff_eq.mpr ns;have X:=mk0 ns;clear ns;obtain⟨c3,c4,hw⟩:=ak.out (by omega);have al:=mk0 hw;clear hw;refine if ar:tv=true then ?p29 else ?q29
                case' p29=>
                  subst ar;have hv:nE 9 I 0 G n true (decide (3=3)||decide (3=7)) os true Z=0:=by simp[nE,s0,show ¬n≤I by omega,show G<n by omega,X.out]
                case' q29=>
                  have ar:=Bool.eq_false_iff.mpr ar;subst ar;have hv:nE 9 I 0 G n true (decide (3=3)||decide (3=7)) os false Z=6:=by simp[nE,s0,show ¬n≤I by omega,show G<n by omega,X.out]
              case' q30=>
                have aa:(os==I)=false:=beq_eq_false_iff_ne.mpr ns;have ab:(os !=I)=true:=bne_iff_ne.mpr ns;have hv:nE 9 I 0 G n true (decide (3=3)||decide (3=7)) os tv Z=16:=by simp[nE,s0,show ¬n≤I by omega,show G<n by omega,ns]
            case' q34=>
              have aI:(oo==3)=false:=beq_eq_false_iff_ne.mpr o3;have aD:(oo !=3)=true:=bne_iff_ne.mpr o3;refine if o7:oo=7 then ?p33 else ?q33
              case' p33=>
                subst oo;obtain⟨⟨r1,r2⟩,hu⟩:=HU.out (by decide);replace r1:=eq_true r1;replace r2:=eq_true r2;have aj:=mk0 (fun W (hW:Below w.heap.size w W)=>(hW.cell (World.block_lt_of_cell? w _ hu)).trans hu);clear hu;refine if ns:os=I then ?p32 else ?q32
                case' p32=>
                  have aa:(os==I)=true:=beq_iff_eq.mpr ns;have ab:(os !=I)=false:=bne_eq_false_iff_eq.mpr ns;have X:=mk0 ns;clear ns;obtain⟨c3,c4,hw⟩:=ak.out (by omega);have al:=mk0 hw;clear hw;refine if am:tv=true then ?p31 else ?q31
                  case' p31=>
                    subst am;have hv:nE 9 I 0 G n true (decide (7=3)||decide (7=7)) os true Z=0:=by simp[nE,s0,show ¬n≤I by omega,show G<n by omega,o3,X.out]
                  case' q31=>
                    have am:=Bool.eq_false_iff.mpr am;subst am;have hv:nE 9 I 0 G n true (decide (7=3)||decide (7=7)) os false Z=6:=by simp[nE,s0,show ¬n≤I by omega,show G<n by omega,o3,X.out]
                case' q32=>
                  have aa:(os==I)=false:=beq_eq_false_iff_ne.mpr ns;have ab:(os !=I)=true:=bne_iff_ne.mpr ns;have hv:nE 9 I 0 G n true (decide (7=3)||decide (7=7)) os tv Z=16:=by simp[nE,s0,show ¬n≤I by omega,show G<n by omega,o3,ns]
              case' q33=>
                have aH:(oo==7)=false:=beq_eq_false_iff_ne.mpr o7;have aL:(oo !=7)=true:=bne_iff_ne.mpr o7;have hv:nE 9 I 0 G n true (decide (oo=3)||decide (oo=7)) os tv Z=16:=by simp[nE,s0,show ¬n≤I by omega,show G<n by omega,o3,o7]
          case' q35=>
            have au:decide (G<n)=false:=decide_eq_false n3;have hv:nE 9 I 0 G n true (decide (oo=3)||decide (oo=7)) os tv Z=16:=by simp[nE,s0,show ¬n≤I by omega,show ¬G<n by omega]
        case' q36=>
          have aJ:(x2==0)=false:=beq_eq_false_iff_ne.mpr c0;have aK:(x2 !=0)=true:=bne_iff_ne.mpr c0;have hv:nE 9 I x2 G n true (decide (oo=3)||decide (oo=7)) os tv Z=16:=by simp[nE,s0,show ¬n≤I by omega,c0]
      case' q28=>
        have ao:=Bool.eq_false_iff.mpr ao;subst ao;have hv:nE 9 I x2 G n false (decide (oo=3)||decide (oo=7)) os tv Z=16:=by simp[nE,s0,show ¬n≤I by omega]
  all_goals
    go_enter Tryz.func28,Tryz.ntmps28
    go_wp2_with(first|(go_at_call 31;(with_reducible refine(kV.calls a0 _ _ l1 _ _ l2 _ _ _ (Kd.iT ah.out (by repeat(first|exact D.out|apply eP|apply eX|apply eZ))) ag.out (Kd.iT af.out (by repeat(first|exact D.out|apply eP|apply eX|apply eZ))) ae.out aw.out).mono ?_);rintro e w9⟨rfl,Y⟩;have U:=Bx.below (by repeat(first|exact L.out|apply Bx.drewN|apply Bx.drew)) Y;clear L D;have L:=mk0 U;have D:=mk0 U.low;obtain⟨g5,g6,g7⟩:=qO U.1.out;obtain⟨q0,q1,q2,q3,q4⟩:=kT U.2.1.out;clear U Y)|(go_at_call 48;(with_reducible refine(iL.calls a0 _ _ l1 _ _ l2 _ _ _ (Kd.iT ah.out (by repeat(first|exact D.out|apply eP|apply eX|apply eZ))) ag.out (Kd.iT af.out (by repeat(first|exact D.out|apply eP|apply eX|apply eZ))) ae.out ax.out).mono ?_);rintro e w9⟨rfl,Y⟩;have U:=Bx.below (by repeat(first|exact L.out|apply Bx.drewN|apply Bx.drew)) Y;clear L D;have L:=mk0 U;have D:=mk0 U.low;obtain⟨g5,g6,g7⟩:=qO U.1.out;obtain⟨q0,q1,q2,q3,q4⟩:=kT U.2.1.out;clear U Y;try have u1:=aj.out _ D.out)|(go_at_call 49;(with_reducible refine(iJ.calls _ a0 _ _ l1 _ _ l2 _ _ _ _ _ (Kd.iT ah.out (by repeat(first|exact D.out|apply eP|apply eX|apply eZ))) ag.out (Kd.iT af.out (by repeat(first|exact D.out|apply eP|apply eX|apply eZ))) ae.out al.out).mono ?_);rintro e w8⟨rfl,ai⟩;have U:=mk0 (kg (by repeat(first|exact D.out|apply eP|apply eX|apply eZ)) ai);clear D;have D:=U;clear U ai))
    repeat(go_quiet(fail);try go_wp2_with(first|(go_at_call 31;(with_reducible refine(kV.calls a0 _ _ l1 _ _ l2 _ _ _ (Kd.iT ah.out (by repeat(first|exact D.out|apply eP|apply eX|apply eZ))) ag.out (Kd.iT af.out (by repeat(first|exact D.out|apply eP|apply eX|apply eZ))) ae.out aw.out).mono ?_);rintro e w9⟨rfl,Y⟩;have U:=Bx.below (by repeat(first|exact L.out|apply Bx.drewN|apply Bx.drew)) Y;clear L D;have L:=mk0 U;have D:=mk0 U.low;obtain⟨g5,g6,g7⟩:=qO U.1.out;obtain⟨q0,q1,q2,q3,q4⟩:=kT U.2.1.out;clear U Y)|(go_at_call 48;(with_reducible refine(iL.calls a0 _ _ l1 _ _ l2 _ _ _ (Kd.iT ah.out (by repeat(first|exact D.out|apply eP|apply eX|apply eZ))) ag.out (Kd.iT af.out (by repeat(first|exact D.out|apply eP|apply eX|apply eZ))) ae.out ax.out).mono ?_);rintro e w9⟨rfl,Y⟩;have U:=Bx.below (by repeat(first|exact L.out|apply Bx.drewN|apply Bx.drew)) Y;clear L D;have L:=mk0 U;have D:=mk0 U.low;obtain⟨g5,g6,g7⟩:=qO U.1.out;obtain⟨q0,q1,q2,q3,q4⟩:=kT U.2.1.out;clear U Y;try have u1:=aj.out _ D.out)|(go_at_call 49;(with_reducible refine(iJ.calls _ a0 _ _ l1 _ _ l2 _ _ _ _ _ (Kd.iT ah.out (by repeat(first|exact D.out|apply eP|apply eX|apply eZ))) ag.out (Kd.iT af.out (by repeat(first|exact D.out|apply eP|apply eX|apply eZ))) ae.out al.out).mono ?_);rintro e w8⟨rfl,ai⟩;have U:=mk0 (kg (by repeat(first|exact D.out|apply eP|apply eX|apply eZ)) ai);clear D;have D:=U;clear U ai)))
    go_ret
    exact⟨by first|rfl|exact congrArg (fun z=>Ending.returned (Value.int .i64 z)) hv.symm,by repeat(first|exact D.out|apply eP|apply eX|apply eZ)⟩
end Go.Proofs.Gr
