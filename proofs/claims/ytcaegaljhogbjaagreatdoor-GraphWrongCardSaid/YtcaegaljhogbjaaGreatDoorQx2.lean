/- What Go functions compute, as plain Lean functions, and. -/
import Derived.Test.YtcaegaljhogbjaaGreatDoorQx0
set_option linter.unusedSimpArgs false
set_option linter.unusedVariables false
namespace Go.Proofs.Q
open Ext B RowKit PW PL PM
attribute [local go_sem] qI qH qV qW qz qA qM qL
mutual
def eH.j0:Nat→ByteArray→Bool→Option (Int×Int)
 |0,_,_=>none
 |k+1,x0,x22=>if x22=true then(some (0,2))else((eU.f k x0 1).bind fun D=>(if D.2.2=true then(eH.j1 k x0 1 0 D.1 D.2.1 (decide (D.2.1<(x0.size:Int))))else(eH.j1 k x0 1 0 D.1 D.2.1 false)))
def eH.j1:Nat→ByteArray→Int→Int→Int→Int→Bool→Option (Int×Int)
 |0,_,_,_,_,_,_=>none
 |k+1,x0,x4,x5,x6,x7,x35=>if x35=true then(if 0≤x7 then(if x7<(x0.size:Int)then(if(bt x0 x7)=89 then(eH.j2 k x0 x6 x7 (bt x0 x7) ((bt x0 x7)==89))else(eH.j2 k x0 x6 x7 (bt x0 x7) ((bt x0 x7)==77)))else(none))else(none))else(eH.j3 k x0 x4 x5)
def eH.j3:Nat→ByteArray→Int→Int→Option (Int×Int)
 |0,_,_,_=>none
 |k+1,x0,x4,x5=>if x4<(x0.size:Int)then(if 0≤x4 then(if(bt x0 x4)=84 then(eH.l0 k x0 (wrap64 (x4+1)) x5 false (([3600,60,1]:List Int)) 0)else(some (0,2)))else(none))else(if x5>1125899906842624 then(some (0,3))else(some (x5,0)))
def eH.l0:Nat→ByteArray→Int→Int→Bool→List Int→Int→Option (Int×Int)
 |0,_,_,_,_,_,_=>none
 |k+1,x0,x4,x5,x9,x10,x11=>if x11<3 then((eU.f k x0 x4).bind fun D=>(if D.2.2=true then(if D.2.1<(x0.size:Int)then(if 0≤D.2.1 then(if 0≤x11 then(if(bt x0 D.2.1)=(bt (⟨#[72,77,83]⟩:ByteArray) x11)then(if x11<(x10.length:Int)then((kF.f x5 D.1 (rd x10 x11)).bind fun G=>(eH.l0 k x0 (wrap64 (D.2.1+1)) G true x10 (wrap64 (x11+1))))else(none))else(eH.l0 k x0 x4 x5 x9 x10 (wrap64 (x11+1))))else(none))else(none))else(eH.l0 k x0 x4 x5 x9 x10 (wrap64 (x11+1))))else(eH.l0 k x0 x4 x5 x9 x10 (wrap64 (x11+1)))))else(if x9=true then(eH.j5 k x5 (x4 !=(x0.size:Int)))else(eH.j5 k x5 true))
def eH.j5:Nat→Int→Bool→Option (Int×Int)
 |0,_,_=>none
 |k+1,x5,x111=>if x111=true then(some (0,2))else(if x5>1125899906842624 then(some (0,3))else(some (x5,0)))
def eH.j2:Nat→ByteArray→Int→Int→Int→Bool→Option (Int×Int)
 |0,_,_,_,_,_=>none
 |k+1,x0,x6,x7,x38,x39=>if x39=true then(some (0,4))else(if x38=87 then((kF.f 0 x6 604800).bind fun D=>(if(wrap64 (x7+1))=(x0.size:Int)then(eH.j3 k x0 (wrap64 (x7+1)) D)else(some (0,2))))else(if x38=68 then((kF.f 0 x6 86400).bind fun G=>(eH.j3 k x0 (wrap64 (x7+1)) G))else(some (0,2))))
end
def eH.f(k:Nat)(D:ByteArray):Option (Int×Int):=if(D.size:Int)<2 then(eH.j0 k D true)else(if 0<(D.size:Int)then(eH.j0 k D ((bt D 0) !=80))else(none))
set_option maxHeartbeats 8000000 in
set_option maxRecDepth 100000 in
theorem eH.calls(k:Nat)(L:ByteArray)(r1:Int)(r2:Int)(w:World)(h:eH.f k L=some (r1,r2)):
  Calls Tryz.prog 85 #[.string L] w fun e w'=>e= .returned (.tuple #[.int .u64 r1, .int .i64 r2])∧Below w.heap.size w w':=by
 have HB:=mk0 (Below.refl w.heap.size w);unfold eH.f at h;have H:=h;clear h;have a9:=mk0 H;clear H;go_enter Tryz.func85,Tryz.ntmps85;go_upto_region 1 with(fail)
 repeat(go_quiet(fail);go_upto_region 1 with(fail))
 go_cut [22] (fun bG wc=>∃(kq:Nat) (ay:Bool),bG= .bool ay∧eD (eH.j0 kq L ay=some (r1,r2))∧eD (kq≤k)∧eD (Below w.heap.size w wc))
 case first=>
  have H:=a9.out;clear a9;replace H:=ic H;rcases H with⟨c3,H⟩|⟨c3,H⟩
  ·have az:=decide_eq_true c3;have bv:decide (L.size<2)=true:=decide_eq_true (by omega);clear c3;(first|rw[az]|(simp only[kZ,qY];rw[az])|skip);have H':=mk0 H;clear H;go_wp2;(repeat(go_quiet(fail);try go_wp2));go_meet;case rel=>exact⟨_,(true),qr,H',ql,hba HB⟩
  have az:=decide_eq_false c3;have bv:decide (L.size<2)=false:=decide_eq_false (by omega);clear c3;(first|rw[az]|(simp only[kZ,qY];rw[az])|skip);replace H:=icp H;obtain⟨c4,H⟩:=H;have bI:=decide_eq_true c4;have bK:decide (0<L.size)=true:=decide_eq_true (by omega);clear c4;have H':=mk0 H;clear H;have p5:0≤(0:Int):=(by omega)
  have q5:0<L.size:=(by have:(0:Int)<(L.size:Int):=of_decide_eq_true (by assumption);omega)
  have bM:∀h:0<L.size,((L[0]'h).toNat:Int)=bt L 0:=kY L 0;clear p5;have bL:(0<(L.size:Int))=True:=eq_true (of_decide_eq_true (by assumption));replace q5:=eq_true q5;go_wp2;repeat(go_quiet(fail);try go_wp2)
  go_meet;case rel=>exact⟨_,(((bt L 0) !=80)),qr,H',ql,hba HB⟩
 case rest=>
  clear a9;obtain⟨kq,ay,rfl,HA,HJ1,HB⟩:=hcut;cases kq with
  |zero=>exact absurd HA.out (by simp[eH.j0])
  |succ kj1=>
   have H:=HA.out;clear HA;simp only[eH.j0]at H;by_cases c6:ay=true
   ·subst c6;(have H1:(some (0,2))=some (r1,r2):=by rw[if_pos rfl]at H;exact H);clear H;have H:=H1;clear H1;obtain⟨rfl,rfl⟩:=sj2 H;clear H;go_wp2;(repeat(go_quiet(fail);try go_wp2));go_ret2;exact⟨qe,bok HB.out⟩
   replace c6:=Bool.eq_false_iff.mpr c6;subst c6;(have H1:((eU.f kj1 L 1).bind fun am=>(if am.2.2=true then(eH.j1 kj1 L 1 0 am.1 am.2.1 (decide (am.2.1<(L.size:Int))))else(eH.j1 kj1 L 1 0 am.1 am.2.1 false)))=some (r1,r2):=by rw[if_neg (show ¬(false=true) by decide)]at H;exact H);clear H;have H:=H1;clear H1;replace H:=bsm H;obtain⟨⟨Y,I,aY⟩,A7,H⟩:=H;(try dsimp only at H);have bb:=mk0 H;clear H;(go_upto_region 5 with((go_at_call 110;refine(eU.calls kj1 L 1 Y I aY _ A7.out).mono ?_;rintro e w'⟨rfl,⟨nd,rfl⟩⟩;(try exact drw))));(repeat(go_quiet((go_at_call 110;refine(eU.calls kj1 L 1 Y I aY _ A7.out).mono ?_;rintro e w'⟨rfl,⟨nd,rfl⟩⟩;(try exact drw)));go_upto_region 5 with((go_at_call 110;refine(eU.calls kj1 L 1 Y I aY _ A7.out).mono ?_;rintro e w'⟨rfl,⟨nd,rfl⟩⟩;(try exact drw)))));(try simp only[Act.put,List.setIfInBounds_toArray,List.set_cons_zero,List.set_cons_succ]);go_cut [35] (fun bD wc=>∃(kq:Nat) (ax:Bool),bD= .bool ax∧eD (eH.j1 kq L 1 0 Y I ax=some (r1,r2))∧eD (kq≤kj1)∧eD (Below w.heap.size w wc))
   case first=>
    have H:=bb.out;clear bb;replace H:=icb H;rcases H with⟨rfl,H⟩|⟨rfl,H⟩
    ·have H':=mk0 H;clear H;go_wp2;(repeat(go_quiet(fail);try go_wp2));go_meet;case rel=>exact⟨_,(decide (I<(L.size:Int))),qr,H',(qj HJ1),hba HB⟩
    have H':=mk0 H;clear H;go_wp2;(repeat(go_quiet(fail);try go_wp2));go_meet;case rel=>exact⟨_,(false),qr,H',(qj HJ1),hba HB⟩
   case rest=>
    clear bb;obtain⟨kq,ax,rfl,HA,HJ7,HB⟩:=hcut;cases kq with
    |zero=>exact absurd HA.out (by simp[eH.j1])
    |succ kj7=>
     have H:=HA.out;clear HA;simp only[eH.j1]at H;have aQ:=mk0 H;clear H;(go_upto_if 35 with(fail));(repeat(go_quiet(fail);go_upto_if 35 with(fail)));go_cut [4,5] (fun v4 v5 wc=>∃(kq:Nat) (ab:Int) (aI:Int),v4= .int .i64 ab∧v5= .int .u64 aI∧eD (eH.j3 kq L ab aI=some (r1,r2))∧eD (kq≤kj7)∧eD (Below w.heap.size w wc))
     case first=>
      have H:=aQ.out;clear aQ;by_cases a5:ax=true
      ·subst a5;(have H1:(if 0≤I then(if I<(L.size:Int)then(if(bt L I)=89 then(eH.j2 kj7 L Y I (bt L I) ((bt L I)==89))else(eH.j2 kj7 L Y I (bt L I) ((bt L I)==77)))else(none))else(none))=some (r1,r2):=by rw[if_pos rfl]at H;exact H);clear H;have H:=H1;clear H1;by_cases a3:0≤I
       ·rw[if_pos a3]at H;have aU:decide (0≤I)=true:=decide_eq_true a3;clear a3;(first|rw[aU]|(simp only[kZ,qY];rw[aU])|skip);by_cases a6:I<(L.size:Int)
        ·rw[if_pos a6]at H;have bE:decide (I<(L.size:Int))=true:=decide_eq_true a6;clear a6;have aS:=mk0 H;clear H;have bz:0≤(I:Int):=of_decide_eq_true (by assumption);have bA:I<(L.size:Int):=of_decide_eq_true (by assumption);have bJ:=kY L I;replace bz:=eq_true bz;replace bA:=eq_true bA;(go_upto_if 39 with(fail));(repeat(go_quiet(fail);go_upto_if 39 with(fail)));go_cut [39] (fun bH wc=>∃(kq:Nat) (aw:Bool),bH= .bool aw∧eD (eH.j2 kq L Y I (bt L I) aw=some (r1,r2))∧eD (kq≤kj7)∧eD (Below w.heap.size w wc))
         case first=>
          have H:=aS.out;clear aS;replace H:=ic H;rcases H with⟨aP,H⟩|⟨aP,H⟩
          ·have aq:=beq_iff_eq.mpr aP;have bj:=bne_eq_false_iff_eq.mpr aP;clear aP;(first|rw[aq]|(simp only[kZ,qY];rw[aq])|skip);have H':=mk0 H;clear H;go_wp2;(repeat(go_quiet(fail);try go_wp2));go_meet;case rel=>exact⟨_,(((bt L I)==89)),qr,H',⟨by have:=HJ1.out;have:=HJ7.out;first|omega|exact Nat.le_refl _⟩,hba HB⟩
          have aq:=beq_eq_false_iff_ne.mpr aP;have bj:=bne_iff_ne.mpr aP;(first|rw[aq]|(simp only[kZ,qY];rw[aq])|skip);have H':=mk0 H;clear H;go_wp2;(repeat(go_quiet(fail);try go_wp2));go_meet;case rel=>exact⟨_,(((bt L I)==77)),qr,H',⟨by have:=HJ1.out;have:=HJ7.out;first|omega|exact Nat.le_refl _⟩,hba HB⟩
         case rest=>
          clear aS;obtain⟨kq,aw,rfl,HA,HJ14,HB⟩:=hcut;cases kq with
          |zero=>exact absurd HA.out (by simp[eH.j2])
          |succ kj14=>
           have H:=HA.out;clear HA;simp only[eH.j2]at H;replace H:=icb H;rcases H with⟨rfl,H⟩|⟨rfl,H⟩
           ·obtain⟨rfl,rfl⟩:=sj2 H;clear H;go_wp2;(repeat(go_quiet(fail);try go_wp2));go_ret2;exact⟨qe,bok HB.out⟩
           replace H:=ic H;rcases H with⟨aM,H⟩|⟨aM,H⟩
           ·have bm:=beq_iff_eq.mpr aM;have bd:=bne_eq_false_iff_eq.mpr aM;clear aM;replace H:=bsm H;obtain⟨ar,aK,H⟩:=H;replace H:=ic H;rcases H with⟨aO,H⟩|⟨aO,H⟩
            ·have bl:=beq_iff_eq.mpr aO;have bc:=bne_eq_false_iff_eq.mpr aO;clear aO;have H':=mk0 H;clear H;go_wp2_with((go_at_call 111;refine(kF.calls 0 Y 604800 ar _ aK.out).mono ?_;rintro e w'⟨rfl,⟨nd,rfl⟩⟩;(try exact drw)));(repeat(go_quiet((go_at_call 111;refine(kF.calls 0 Y 604800 ar _ aK.out).mono ?_;rintro e w'⟨rfl,⟨nd,rfl⟩⟩;(try exact drw)));try go_wp2_with((go_at_call 111;refine(kF.calls 0 Y 604800 ar _ aK.out).mono ?_;rintro e w'⟨rfl,⟨nd,rfl⟩⟩;(try exact drw)))));go_meet;case rel=>exact⟨_,(wrap64 (I+1)),(ar),qr,qr,H',⟨by have:=HJ1.out;have:=HJ7.out;have:=HJ14.out;first|omega|exact Nat.le_refl _⟩,hba HB⟩
            have bl:=beq_eq_false_iff_ne.mpr aO;have bc:=bne_iff_ne.mpr aO;obtain⟨rfl,rfl⟩:=sj2 H;clear H;go_wp2_with((go_at_call 111;refine(kF.calls 0 Y 604800 ar _ aK.out).mono ?_;rintro e w'⟨rfl,⟨nd,rfl⟩⟩;(try exact drw)));(repeat(go_quiet((go_at_call 111;refine(kF.calls 0 Y 604800 ar _ aK.out).mono ?_;rintro e w'⟨rfl,⟨nd,rfl⟩⟩;(try exact drw)));try go_wp2_with((go_at_call 111;refine(kF.calls 0 Y 604800 ar _ aK.out).mono ?_;rintro e w'⟨rfl,⟨nd,rfl⟩⟩;(try exact drw)))));go_ret2;exact⟨qe,bok HB.out⟩
           have bm:=beq_eq_false_iff_ne.mpr aM;have bd:=bne_iff_ne.mpr aM;replace H:=ic H;rcases H with⟨aL,H⟩|⟨aL,H⟩
           ·have bi:=beq_iff_eq.mpr aL;have bf:=bne_eq_false_iff_eq.mpr aL;clear aL;replace H:=bsm H;obtain⟨aH,bo,H⟩:=H;have H':=mk0 H;clear H;go_wp2_with((go_at_call 111;refine(kF.calls 0 Y 86400 aH _ bo.out).mono ?_;rintro e w'⟨rfl,⟨nd,rfl⟩⟩;(try exact drw)));(repeat(go_quiet((go_at_call 111;refine(kF.calls 0 Y 86400 aH _ bo.out).mono ?_;rintro e w'⟨rfl,⟨nd,rfl⟩⟩;(try exact drw)));try go_wp2_with((go_at_call 111;refine(kF.calls 0 Y 86400 aH _ bo.out).mono ?_;rintro e w'⟨rfl,⟨nd,rfl⟩⟩;(try exact drw)))));go_meet;case rel=>exact⟨_,(wrap64 (I+1)),(aH),qr,qr,H',⟨by have:=HJ1.out;have:=HJ7.out;have:=HJ14.out;first|omega|exact Nat.le_refl _⟩,hba HB⟩
           have bi:=beq_eq_false_iff_ne.mpr aL;have bf:=bne_iff_ne.mpr aL;obtain⟨rfl,rfl⟩:=sj2 H;clear H;go_wp2;(repeat(go_quiet(fail);try go_wp2));go_ret2;exact⟨qe,bok HB.out⟩
        rw[if_neg a6]at H;exact absurd H (by simp)
       rw[if_neg a3]at H;exact absurd H (by simp)
      replace a5:=Bool.eq_false_iff.mpr a5;subst a5;(have H1:(eH.j3 kj7 L 1 0)=some (r1,r2):=by rw[if_neg (show ¬(false=true) by decide)]at H;exact H);clear H;have H:=H1;clear H1;have H':=mk0 H;clear H;go_wp2;(repeat(go_quiet(fail);try go_wp2));go_meet;case rel=>exact⟨_,(1),(0),qr,qr,H',⟨by have:=HJ1.out;have:=HJ7.out;first|omega|exact Nat.le_refl _⟩,hba HB⟩
     case rest=>
      clear aQ;obtain⟨kq,ab,aI,rfl,rfl,HA,HJ9,HB⟩:=hcut;cases kq with
      |zero=>exact absurd HA.out (by simp[eH.j3])
      |succ kj9=>
       have H:=HA.out;clear HA;simp only[eH.j3]at H;replace H:=ic H;rcases H with⟨aX,H⟩|⟨aX,H⟩
       ·have bs:=decide_eq_true aX;clear aX;by_cases a4:0≤ab
        ·rw[if_pos a4]at H;have bC:decide (0≤ab)=true:=decide_eq_true a4;clear a4;replace H:=ic H;rcases H with⟨aJ,H⟩|⟨aJ,H⟩
         ·have be:=beq_iff_eq.mpr aJ;have bp:=bne_eq_false_iff_eq.mpr aJ;clear aJ;obtain⟨an,al⟩:=nv (([3600,60,1]:List Int):List Int);rw[←al.out]at H;have H':=mk0 H;clear H;have a2:0≤(ab:Int):=of_decide_eq_true (by assumption);have aV:ab<(L.size:Int):=of_decide_eq_true (by assumption);have bw:=kY L ab;replace a2:=eq_true a2;replace aV:=eq_true aV;go_wp2_with(((with_reducible refine vJ (N:=68) rfl ?_);(try(refine qg (by rfl) ?_;dsimp only));refine Kd.zW (Kd.int .u64) _ 44 ?hg (N:=68) ?hd (xs:=([3600,60,1]:List Int)) (inner:=[.int .u64 3600, .int .u64 60, .int .u64 1]) (ok:=fun _=>True) (okp:=fun _=>True) ?hr ?hp (fun _ hk=>hk) trivial (Below.refl _ _) (Nat.le_refl _) (by simp) ?_;(case hd=>rfl);(case hg=>rfl);(case hr=>first|(go_simp;done)|(go_simp;rfl));(case hp=>exact(qC.one (show Kd.M (Kd.int .u64) _ _ _ 3600 [.int .u64 3600]from rfl) (qC.one (show Kd.M (Kd.int .u64) _ _ _ 60 [.int .u64 60]from rfl) (qC.one (show Kd.M (Kd.int .u64) _ _ _ 1 [.int .u64 1]from rfl) (qC.none _ _)))));intro aW bB X hb a1 au;clear a1 au;(first|rw[←al.out]at X|(simp only[Int.reduceToNat]at X;rw[←al.out]at X));have aF:=rlh X HB;replace HB:=bsh HB hb;clear hb X));(repeat(go_quiet(((with_reducible refine vJ (N:=68) rfl ?_);(try(refine qg (by rfl) ?_;dsimp only));refine Kd.zW (Kd.int .u64) _ 44 ?hg (N:=68) ?hd (xs:=([3600,60,1]:List Int)) (inner:=[.int .u64 3600, .int .u64 60, .int .u64 1]) (ok:=fun _=>True) (okp:=fun _=>True) ?hr ?hp (fun _ hk=>hk) trivial (Below.refl _ _) (Nat.le_refl _) (by simp) ?_;(case hd=>rfl);(case hg=>rfl);(case hr=>first|(go_simp;done)|(go_simp;rfl));(case hp=>exact(qC.one (show Kd.M (Kd.int .u64) _ _ _ 3600 [.int .u64 3600]from rfl) (qC.one (show Kd.M (Kd.int .u64) _ _ _ 60 [.int .u64 60]from rfl) (qC.one (show Kd.M (Kd.int .u64) _ _ _ 1 [.int .u64 1]from rfl) (qC.none _ _)))));intro aW bB X hb a1 au;clear a1 au;(first|rw[←al.out]at X|(simp only[Int.reduceToNat]at X;rw[←al.out]at X));have aF:=rlh X HB;replace HB:=bsh HB hb;clear hb X));try go_wp2_with(((with_reducible refine vJ (N:=68) rfl ?_);(try(refine qg (by rfl) ?_;dsimp only));refine Kd.zW (Kd.int .u64) _ 44 ?hg (N:=68) ?hd (xs:=([3600,60,1]:List Int)) (inner:=[.int .u64 3600, .int .u64 60, .int .u64 1]) (ok:=fun _=>True) (okp:=fun _=>True) ?hr ?hp (fun _ hk=>hk) trivial (Below.refl _ _) (Nat.le_refl _) (by simp) ?_;(case hd=>rfl);(case hg=>rfl);(case hr=>first|(go_simp;done)|(go_simp;rfl));(case hp=>exact(qC.one (show Kd.M (Kd.int .u64) _ _ _ 3600 [.int .u64 3600]from rfl) (qC.one (show Kd.M (Kd.int .u64) _ _ _ 60 [.int .u64 60]from rfl) (qC.one (show Kd.M (Kd.int .u64) _ _ _ 1 [.int .u64 1]from rfl) (qC.none _ _)))));intro aW bB X hb a1 au;clear a1 au;(first|rw[←al.out]at X|(simp only[Int.reduceToNat]at X;rw[←al.out]at X));have aF:=rlh X HB;replace HB:=bsh HB hb;clear hb X))));go_loopg [4,5,9,11] kj9 (fun kq v4 v5 v9 bF w'=>∃(U:Int) (ak:Int) (av:Bool) (D:Int),v4= .int .i64 U∧v5= .int .u64 ak∧v9= .bool av∧bF= .int .i64 D∧eD (eH.l0 kq L U ak av an D=some (r1,r2))∧eD (kq≤kj9)∧eD (Kd.R (Kd.int .u64) 44 w' w.heap.size (fun _=>True) aW an)∧eD (Below w.heap.size w w'));case atStart=>exact⟨(wrap64 (ab+1)),(aI),(false),(0),qr,qr,qr,qr,H',⟨Nat.le_refl _⟩,rka aF,hba HB⟩
          case round=>
           clear H';obtain⟨U,ak,av,D,rfl,rfl,rfl,rfl,HA,HK4,aa,HB⟩:=hrel;cases gk with
           |zero=>exact absurd HA.out (by simp[eH.l0])
           |succ k4=>
            have H:=HA.out;clear HA;simp only[eH.l0]at H;replace H:=ic H;rcases H with⟨aT,H⟩|⟨aT,H⟩
            ·have bh:=decide_eq_true aT;clear aT;replace H:=bsm H;obtain⟨⟨Z,G,_⟩,ao,H⟩:=H;(try dsimp only at H);replace H:=icb H;rcases H with⟨rfl,H⟩|⟨rfl,H⟩
             ·replace H:=icd H;rcases H with⟨bn,H⟩|⟨bn,H⟩
              ·replace H:=idp H;obtain⟨_,H⟩:=H;replace H:=idp H;obtain⟨_,H⟩:=H;replace H:=ic H;rcases H with⟨aN,H⟩|⟨aN,H⟩
               ·have bq:=beq_iff_eq.mpr aN;have bu:=bne_eq_false_iff_eq.mpr aN;clear aN;replace H:=idp H;obtain⟨_,H⟩:=H;replace H:=bsm H;obtain⟨aG,bk,H⟩:=H;have H':=mk0 H;clear H;go_wp2_with(first|(go_at_call 110;refine(eU.calls k4 L U Z G true _ ao.out).mono ?_;rintro e w'⟨rfl,⟨nd,rfl⟩⟩;(try exact drw);have ae:0≤(G:Int):=of_decide_eq_true (by assumption);have aj:G<(L.size:Int):=of_decide_eq_true (by assumption);have aC:=kY L G;replace ae:=eq_true ae;replace aj:=eq_true aj;have ah:0≤(D:Int):=of_decide_eq_true (by assumption);have af:D<(3:Int):=of_decide_eq_true (by assumption);have aD:=kY (⟨#[72,77,83]⟩:ByteArray) D;replace ah:=eq_true ah;replace af:=eq_true af;obtain⟨a8,a7,aB⟩:=Kd.qw aa.out;subst aB;have ag:0≤(D:Int):=of_decide_eq_true (by assumption);have ai:D<(an.length:Int):=of_decide_eq_true (by assumption);obtain⟨aZ,aE,aA⟩:=Kd.tV (Kd.iY aa.out).2.2 D ag ai;cases aE;replace ag:=eq_true ag;replace ai:=eq_true ai)|(go_at_call 111;refine(kF.calls ak Z (rd an D) aG _ bk.out).mono ?_;rintro e w'⟨rfl,⟨nd,rfl⟩⟩;(try exact drw)));(repeat(go_quiet(first|(go_at_call 110;refine(eU.calls k4 L U Z G true _ ao.out).mono ?_;rintro e w'⟨rfl,⟨nd,rfl⟩⟩;(try exact drw);have ae:0≤(G:Int):=of_decide_eq_true (by assumption);have aj:G<(L.size:Int):=of_decide_eq_true (by assumption);have aC:=kY L G;replace ae:=eq_true ae;replace aj:=eq_true aj;have ah:0≤(D:Int):=of_decide_eq_true (by assumption);have af:D<(3:Int):=of_decide_eq_true (by assumption);have aD:=kY (⟨#[72,77,83]⟩:ByteArray) D;replace ah:=eq_true ah;replace af:=eq_true af;obtain⟨a8,a7,aB⟩:=Kd.qw aa.out;subst aB;have ag:0≤(D:Int):=of_decide_eq_true (by assumption);have ai:D<(an.length:Int):=of_decide_eq_true (by assumption);obtain⟨aZ,aE,aA⟩:=Kd.tV (Kd.iY aa.out).2.2 D ag ai;cases aE;replace ag:=eq_true ag;replace ai:=eq_true ai)|(go_at_call 111;refine(kF.calls ak Z (rd an D) aG _ bk.out).mono ?_;rintro e w'⟨rfl,⟨nd,rfl⟩⟩;(try exact drw)));try go_wp2_with(first|(go_at_call 110;refine(eU.calls k4 L U Z G true _ ao.out).mono ?_;rintro e w'⟨rfl,⟨nd,rfl⟩⟩;(try exact drw);have ae:0≤(G:Int):=of_decide_eq_true (by assumption);have aj:G<(L.size:Int):=of_decide_eq_true (by assumption);have aC:=kY L G;replace ae:=eq_true ae;replace aj:=eq_true aj;have ah:0≤(D:Int):=of_decide_eq_true (by assumption);have af:D<(3:Int):=of_decide_eq_true (by assumption);have aD:=kY (⟨#[72,77,83]⟩:ByteArray) D;replace ah:=eq_true ah;replace af:=eq_true af;obtain⟨a8,a7,aB⟩:=Kd.qw aa.out;subst aB;have ag:0≤(D:Int):=of_decide_eq_true (by assumption);have ai:D<(an.length:Int):=of_decide_eq_true (by assumption);obtain⟨aZ,aE,aA⟩:=Kd.tV (Kd.iY aa.out).2.2 D ag ai;cases aE;replace ag:=eq_true ag;replace ai:=eq_true ai)|(go_at_call 111;refine(kF.calls ak Z (rd an D) aG _ bk.out).mono ?_;rintro e w'⟨rfl,⟨nd,rfl⟩⟩;(try exact drw)))));go_roundg k4;(case measure=>have:=HJ1.out;have:=HJ7.out;have:=HJ9.out;have:=HK4.out;omega);case rel=>exact⟨(wrap64 (G+1)),(aG),(true),(wrap64 (D+1)),qr,qr,qr,qr,H',⟨by have:=HJ1.out;have:=HJ7.out;have:=HJ9.out;have:=HK4.out;omega⟩,rka aa,hba HB⟩
               have bq:=beq_eq_false_iff_ne.mpr aN;have bu:=bne_iff_ne.mpr aN;have H':=mk0 H;clear H;go_wp2_with((go_at_call 110;refine(eU.calls k4 L U Z G true _ ao.out).mono ?_;rintro e w'⟨rfl,⟨nd,rfl⟩⟩;(try exact drw);have ae:0≤(G:Int):=of_decide_eq_true (by assumption);have aj:G<(L.size:Int):=of_decide_eq_true (by assumption);have aC:=kY L G;replace ae:=eq_true ae;replace aj:=eq_true aj;have ah:0≤(D:Int):=of_decide_eq_true (by assumption);have af:D<(3:Int):=of_decide_eq_true (by assumption);have aD:=kY (⟨#[72,77,83]⟩:ByteArray) D;replace ah:=eq_true ah;replace af:=eq_true af));(repeat(go_quiet((go_at_call 110;refine(eU.calls k4 L U Z G true _ ao.out).mono ?_;rintro e w'⟨rfl,⟨nd,rfl⟩⟩;(try exact drw);have ae:0≤(G:Int):=of_decide_eq_true (by assumption);have aj:G<(L.size:Int):=of_decide_eq_true (by assumption);have aC:=kY L G;replace ae:=eq_true ae;replace aj:=eq_true aj;have ah:0≤(D:Int):=of_decide_eq_true (by assumption);have af:D<(3:Int):=of_decide_eq_true (by assumption);have aD:=kY (⟨#[72,77,83]⟩:ByteArray) D;replace ah:=eq_true ah;replace af:=eq_true af));try go_wp2_with((go_at_call 110;refine(eU.calls k4 L U Z G true _ ao.out).mono ?_;rintro e w'⟨rfl,⟨nd,rfl⟩⟩;(try exact drw);have ae:0≤(G:Int):=of_decide_eq_true (by assumption);have aj:G<(L.size:Int):=of_decide_eq_true (by assumption);have aC:=kY L G;replace ae:=eq_true ae;replace aj:=eq_true aj;have ah:0≤(D:Int):=of_decide_eq_true (by assumption);have af:D<(3:Int):=of_decide_eq_true (by assumption);have aD:=kY (⟨#[72,77,83]⟩:ByteArray) D;replace ah:=eq_true ah;replace af:=eq_true af))));go_roundg k4;(case measure=>have:=HJ1.out;have:=HJ7.out;have:=HJ9.out;have:=HK4.out;omega);case rel=>exact⟨(U),(ak),(av),(wrap64 (D+1)),qr,qr,qr,qr,H',⟨by have:=HJ1.out;have:=HJ7.out;have:=HJ9.out;have:=HK4.out;omega⟩,rka aa,hba HB⟩
              have H':=mk0 H;clear H;go_wp2_with((go_at_call 110;refine(eU.calls k4 L U Z G true _ ao.out).mono ?_;rintro e w'⟨rfl,⟨nd,rfl⟩⟩;(try exact drw)));(repeat(go_quiet((go_at_call 110;refine(eU.calls k4 L U Z G true _ ao.out).mono ?_;rintro e w'⟨rfl,⟨nd,rfl⟩⟩;(try exact drw)));try go_wp2_with((go_at_call 110;refine(eU.calls k4 L U Z G true _ ao.out).mono ?_;rintro e w'⟨rfl,⟨nd,rfl⟩⟩;(try exact drw)))));go_roundg k4;(case measure=>have:=HJ1.out;have:=HJ7.out;have:=HJ9.out;have:=HK4.out;omega);case rel=>exact⟨(U),(ak),(av),(wrap64 (D+1)),qr,qr,qr,qr,H',⟨by have:=HJ1.out;have:=HJ7.out;have:=HJ9.out;have:=HK4.out;omega⟩,rka aa,hba HB⟩
             have H':=mk0 H;clear H;go_wp2_with((go_at_call 110;refine(eU.calls k4 L U Z G false _ ao.out).mono ?_;rintro e w'⟨rfl,⟨nd,rfl⟩⟩;(try exact drw)));(repeat(go_quiet((go_at_call 110;refine(eU.calls k4 L U Z G false _ ao.out).mono ?_;rintro e w'⟨rfl,⟨nd,rfl⟩⟩;(try exact drw)));try go_wp2_with((go_at_call 110;refine(eU.calls k4 L U Z G false _ ao.out).mono ?_;rintro e w'⟨rfl,⟨nd,rfl⟩⟩;(try exact drw)))));go_roundg k4;(case measure=>have:=HJ1.out;have:=HJ7.out;have:=HJ9.out;have:=HK4.out;omega);case rel=>exact⟨(U),(ak),(av),(wrap64 (D+1)),qr,qr,qr,qr,H',⟨by have:=HJ1.out;have:=HJ7.out;have:=HJ9.out;have:=HK4.out;omega⟩,rka aa,hba HB⟩
            have bh:=decide_eq_false aT;clear aT;have aR:=mk0 H;clear H;(go_upto_region 29 with(fail));(repeat(go_quiet(fail);go_upto_region 29 with(fail)));go_cut [111] (fun bx wc=>∃(kq:Nat) (ap:Bool),bx= .bool ap∧eD (eH.j5 kq ak ap=some (r1,r2))∧eD (kq≤k4)∧eD (Below w.heap.size w wc))
            case first=>
             have H:=aR.out;clear aR;replace H:=icb H;rcases H with⟨rfl,H⟩|⟨rfl,H⟩
             ·have H':=mk0 H;clear H;go_wp2;(repeat(go_quiet(fail);try go_wp2));go_meet;case rel=>exact⟨_,((U !=(L.size:Int))),qr,H',⟨by have:=HJ1.out;have:=HJ7.out;have:=HJ9.out;have:=HK4.out;first|omega|exact Nat.le_refl _⟩,hba HB⟩
             have H':=mk0 H;clear H;go_wp2;(repeat(go_quiet(fail);try go_wp2));go_meet;case rel=>exact⟨_,(true),qr,H',⟨by have:=HJ1.out;have:=HJ7.out;have:=HJ9.out;have:=HK4.out;first|omega|exact Nat.le_refl _⟩,hba HB⟩
            case rest=>
             clear aR;obtain⟨kq,ap,rfl,HA,HJ40,HB⟩:=hcut;cases kq with
             |zero=>exact absurd HA.out (by simp[eH.j5])
             |succ kj40=>
              have H:=HA.out;clear HA;simp only[eH.j5]at H;replace H:=icb H;rcases H with⟨rfl,H⟩|⟨rfl,H⟩
              ·obtain⟨rfl,rfl⟩:=sj2 H;clear H;go_wp2;(repeat(go_quiet(fail);try go_wp2));go_ret2;exact⟨qe,bok HB.out⟩
              replace H:=icg H;rcases H with⟨ba,H⟩|⟨ba,H⟩
              ·obtain⟨rfl,rfl⟩:=sj2 H;clear H;go_wp2;(repeat(go_quiet(fail);try go_wp2));go_ret2;exact⟨qe,bok HB.out⟩
              obtain⟨rfl,rfl⟩:=sj2 H;clear H;go_wp2;(repeat(go_quiet(fail);try go_wp2));go_ret2;exact⟨qe,bok HB.out⟩
         have be:=beq_eq_false_iff_ne.mpr aJ;have bp:=bne_iff_ne.mpr aJ;obtain⟨rfl,rfl⟩:=sj2 H;clear H;have a2:0≤(ab:Int):=of_decide_eq_true (by assumption);have aV:ab<(L.size:Int):=of_decide_eq_true (by assumption);have bw:=kY L ab;replace a2:=eq_true a2;replace aV:=eq_true aV;go_wp2;(repeat(go_quiet(fail);try go_wp2));go_ret2;exact⟨qe,bok HB.out⟩
        rw[if_neg a4]at H;exact absurd H (by simp)
       have bs:=decide_eq_false aX;clear aX;replace H:=icg H;rcases H with⟨br,H⟩|⟨br,H⟩
       ·obtain⟨rfl,rfl⟩:=sj2 H;clear H;go_wp2;(repeat(go_quiet(fail);try go_wp2));go_ret2;exact⟨qe,bok HB.out⟩
       obtain⟨rfl,rfl⟩:=sj2 H;clear H;go_wp2;(repeat(go_quiet(fail);try go_wp2));go_ret2;exact⟨qe,bok HB.out⟩
end Go.Proofs.Q
