/- What Go functions compute, as plain Lean functions, and. -/
import Derived.Test.YtcaegaljhogbjaaGreatDoorQx0
set_option linter.unusedSimpArgs false
set_option linter.unusedVariables false
namespace Go.Proofs.Q
open Ext B RowKit PW PL PM
attribute [local go_sem] qI qH qV qW qz qA qM qL
mutual
def ko.j0:Nat→ByteArray→ByteArray→Bool→Bool→Option (Int×Int×Int)
 |0,_,_,_,_=>none
 |k+1,x4,x6,x7,x31=>if x31=true then(some (0,0,5))else(ko.l0 k x4 x6 x7 (x6.size:Int) 0)
def ko.l0:Nat→ByteArray→ByteArray→Bool→Int→Int→Option (Int×Int×Int)
 |0,_,_,_,_,_=>none
 |k+1,x4,x6,x7,x34,x35=>if x35<x34 then(if 0≤x35 then(if x35<(x6.size:Int)then(if(bt x6 x35)<48 then(some (0,0,2))else(if(bt x6 x35)>57 then(some (0,0,2))else(ko.l0 k x4 x6 x7 x34 (wrap64 (x35+1)))))else(none))else(none))else(if x7=true then(if(x6.size:Int)>7 then(ko.j2 k x4 x6 true)else(if 0<(x6.size:Int)then(ko.j2 k x4 x6 ((bt x6 0)==48))else(none)))else(ko.j2 k x4 x6 true))
def ko.j2:Nat→ByteArray→ByteArray→Bool→Option (Int×Int×Int)
 |0,_,_,_=>none
 |k+1,x4,x6,x61=>if x61=true then(some (0,0,2))else((strconv_Atoi.f x6).bind fun G=>(if G.1>1000000 then(some (0,0,3))else((rC.f x4).bind fun D=>(if D.2=0 then(if D.1=0 then(some (0,0,6))else(some (G.1,D.1,0)))else(some (0,0,D.2))))))
end
def ko.f(k:Nat)(I:ByteArray):Option (Int×Int×Int):=(strings_CutPrefix.f I (⟨#[82]⟩:ByteArray)).bind fun G=>(if G.2=true then((strings_Cut.f G.1 (⟨#[47]⟩:ByteArray)).bind fun D=>(if D.2.2=true then(ko.j0 k D.2.1 D.1 D.2.2 (D.1.toList==([]:List UInt8)))else(ko.j0 k D.2.1 D.1 D.2.2 false)))else(some (0,0,2)))
set_option maxHeartbeats 8000000 in
set_option maxRecDepth 100000 in
theorem ko.calls(k:Nat)(a0:ByteArray)(r1:Int)(r2:Int)(r3:Int)(w:World)(h:ko.f k a0=some (r1,r2,r3)):
  Calls Tryz.prog 58 #[.string a0] w fun e w'=>e= .returned (.tuple #[.agg #[.int .i64 r1, .int .u64 r2], .int .i64 r3])∧Below w.heap.size w w':=by
 have aY:=Tryz.underlying46;have HB:=mk0 (Below.refl w.heap.size w);unfold ko.f at h;have H:=h;clear h;replace H:=bsm H;obtain⟨⟨an,aN⟩,A2,H⟩:=H;(try dsimp only at H);by_cases c3:aN=true
 ·subst c3;have H1:((strings_Cut.f an (⟨#[47]⟩:ByteArray)).bind fun Y=>(if Y.2.2=true then(ko.j0 k Y.2.1 Y.1 Y.2.2 (Y.1.toList==([]:List UInt8)))else(ko.j0 k Y.2.1 Y.1 Y.2.2 false)))=some (r1,r2,r3):=by rw[if_pos rfl]at H;exact H
  clear H;have H:=H1;clear H1;replace H:=bsm H;obtain⟨⟨G,aa,am⟩,A4,H⟩:=H;(try dsimp only at H);have aI:=mk0 H;clear H;go_enter Tryz.func58,Tryz.ntmps58;go_upto_region 5 with(first|(refine gds 2 ?_;(try(refine qg (by rfl) ?_;dsimp only));refine bxe 2 (cs:=#[.int .i64 0, .int .u64 0]) (t:=46) ?_;intro L hg w6 aj Z;have D:=mk0 aj;have aG:=glh hg HB;replace HB:=bsh HB Z;clear Z aj hg)|(refine gcl 73 (some 15) ?_;refine gca Tryz.func73 (strings_CutPrefix.calls a0 (⟨#[82]⟩:ByteArray) an true _ A2.out) ?_;rintro e w'⟨rfl,⟨nd,rfl⟩⟩;refine⟨_,rfl,?_⟩)|(refine gcl 78 (some 23) ?_;refine gca Tryz.func78 (strings_Cut.calls an (⟨#[47]⟩:ByteArray) G aa am _ A4.out) ?_;rintro e w'⟨rfl,⟨nd,rfl⟩⟩;refine⟨_,rfl,?_⟩))
  (try simp only[Act.put,List.setIfInBounds_toArray,List.set_cons_zero,List.set_cons_succ]);go_cut [31] (fun aP wc=>∃(kq:Nat) (af:Bool),aP= .bool af∧eD (ko.j0 kq aa G am af=some (r1,r2,r3))∧eD (kq≤k)∧eD (wc.heap[L]?=some (.cells #[.int .i64 0, .int .u64 0] 46 (0,0)))∧eD (Below w.heap.size w wc))
  case first=>
   have H:=aI.out;clear aI;replace H:=icb H;rcases H with⟨rfl,H⟩|⟨rfl,H⟩
   ·have H':=mk0 H;clear H;go_wp2;go_meet;case rel=>exact⟨_,((G.toList==([]:List UInt8))),qr,H',ql,bka D,hba HB⟩
   have H':=mk0 H;clear H;go_wp2;go_meet;case rel=>exact⟨_,(false),qr,H',ql,bka D,hba HB⟩
  case rest=>
   clear aI;obtain⟨kq,af,rfl,HA,HJ4,D,HB⟩:=hcut;cases kq with
   |zero=>exact absurd HA.out (by simp[ko.j0])
   |succ kj4=>
    have H:=HA.out;clear HA;simp only[ko.j0]at H;by_cases c8:af=true
    ·subst c8;(have H1:(some (0,0,5))=some (r1,r2,r3):=by rw[if_pos rfl]at H;exact H);clear H;have H:=H1;clear H1;obtain⟨rfl,rfl,rfl⟩:=sj3 H;clear H;obtain⟨_,_,_,_⟩:=rG D.out;go_wp2;refine bodyPost_ret (kU rfl _ _ L 46 #[.int .i64 0, .int .u64 0] (0,0) _ rfl (by exact obk (eY (obk (eY (obk D.out) 0 _ rfl)) 1 _ rfl)) Tryz.underlying46 rfl (by kernel_rfl)) rfl ?_;exact⟨qe,bok HB.out⟩
    replace c8:=Bool.eq_false_iff.mpr c8;subst c8;(have H1:(ko.l0 kj4 aa G am (G.size:Int) 0)=some (r1,r2,r3):=by rw[if_neg (show ¬(false=true) by decide)]at H;exact H);clear H;have H:=H1;clear H1;have H':=mk0 H;clear H;go_wp2;go_loopg [35] kj4 (fun kq aV w'=>∃(I:Int) (U:Int) (X:Int),aV= .int .i64 I∧eD (ko.l0 kq aa G am (G.size:Int) I=some (r1,r2,r3))∧eD (kq≤kj4)∧eD (w'.heap[L]?=some (.cells #[.int .i64 U, .int .u64 X] 46 (0,0)))∧eD (Below w.heap.size w w'));case atStart=>exact⟨(0),(0),(0),qr,H',⟨Nat.le_refl _⟩,bka D,hba HB⟩
    case round=>
     clear H';obtain⟨I,U,X,rfl,HA,HK2,D,HB⟩:=hrel;cases gk with
     |zero=>exact absurd HA.out (by simp[ko.l0])
     |succ k2=>
      have H:=HA.out;clear HA;simp only[ko.l0]at H;replace H:=ic H;rcases H with⟨c10,H⟩|⟨c10,H⟩
      ·have aE:=decide_eq_true c10;clear c10;replace H:=idp H;obtain⟨_,H⟩:=H;replace H:=idp H;obtain⟨_,H⟩:=H;replace H:=icd H;rcases H with⟨aB,H⟩|⟨aB,H⟩
       ·obtain⟨rfl,rfl,rfl⟩:=sj3 H;clear H;have ag:0≤(I:Int):=of_decide_eq_true (by assumption);have ai:I<(G.size:Int):=of_decide_eq_true (by assumption);have ay:=kY G I;replace ag:=eq_true ag;replace ai:=eq_true ai;obtain⟨_,_,_,_⟩:=rG D.out;go_wp2;refine bodyPost_ret (kU rfl _ _ L 46 #[.int .i64 0, .int .u64 0] (0,0) _ rfl (by exact obk (eY (obk (eY (obk D.out) 0 _ rfl)) 1 _ rfl)) Tryz.underlying46 rfl (by kernel_rfl)) rfl ?_;exact⟨qe,bok HB.out⟩
       replace H:=icg H;rcases H with⟨az,H⟩|⟨az,H⟩
       ·obtain⟨rfl,rfl,rfl⟩:=sj3 H;clear H;have ag:0≤(I:Int):=of_decide_eq_true (by assumption);have ai:I<(G.size:Int):=of_decide_eq_true (by assumption);have ay:=kY G I;replace ag:=eq_true ag;replace ai:=eq_true ai;have av:0≤(I:Int):=of_decide_eq_true (by assumption);have ar:I<(G.size:Int):=of_decide_eq_true (by assumption);have aO:=kY G I;replace av:=eq_true av;replace ar:=eq_true ar;obtain⟨_,_,_,_⟩:=rG D.out;go_wp2;refine bodyPost_ret (kU rfl _ _ L 46 #[.int .i64 0, .int .u64 0] (0,0) _ rfl (by exact obk (eY (obk (eY (obk D.out) 0 _ rfl)) 1 _ rfl)) Tryz.underlying46 rfl (by kernel_rfl)) rfl ?_;exact⟨qe,bok HB.out⟩
       have H':=mk0 H;clear H;have ag:0≤(I:Int):=of_decide_eq_true (by assumption);have ai:I<(G.size:Int):=of_decide_eq_true (by assumption);have ay:=kY G I;replace ag:=eq_true ag;replace ai:=eq_true ai;have av:0≤(I:Int):=of_decide_eq_true (by assumption);have ar:I<(G.size:Int):=of_decide_eq_true (by assumption);have aO:=kY G I;replace av:=eq_true av;replace ar:=eq_true ar;go_wp2;go_roundg k2;(case measure=>have:=HJ4.out;have:=HK2.out;omega);case rel=>exact⟨(wrap64 (I+1)),(U),(X),qr,H',⟨by have:=HJ4.out;have:=HK2.out;omega⟩,bka D,hba HB⟩
      have aE:=decide_eq_false c10;clear c10;have au:=mk0 H;clear H;(go_upto_region 13 with(fail));go_cut [61] (fun aS wc=>∃(kq:Nat) (ae:Bool),aS= .bool ae∧eD (ko.j2 kq aa G ae=some (r1,r2,r3))∧eD (kq≤k2)∧eD (wc.heap[L]?=some (.cells #[.int .i64 U, .int .u64 X] 46 (0,0)))∧eD (Below w.heap.size w wc))
      case first=>
       have H:=au.out;clear au;replace H:=icb H;rcases H with⟨rfl,H⟩|⟨rfl,H⟩
       ·replace H:=ic H;rcases H with⟨aq,H⟩|⟨aq,H⟩
        ·have ab:decide (7<(G.size:Int))=true:=decide_eq_true aq;have aJ:decide (7<G.size)=true:=decide_eq_true (by omega);clear aq;(first|rw[ab]|(simp only[kZ,qY];rw[ab])|skip);have H':=mk0 H;clear H;go_wp2;go_meet;case rel=>exact⟨_,(true),qr,H',⟨by have:=HJ4.out;have:=HK2.out;first|omega|exact Nat.le_refl _⟩,bka D,hba HB⟩
        have ab:decide (7<(G.size:Int))=false:=decide_eq_false aq;have aJ:decide (7<G.size)=false:=decide_eq_false (by omega);clear aq;(first|rw[ab]|(simp only[kZ,qY];rw[ab])|skip);replace H:=icp H;obtain⟨aM,H⟩:=H;have aT:=decide_eq_true aM;have aQ:decide (0<G.size)=true:=decide_eq_true (by omega);clear aM;have H':=mk0 H;clear H;(have aR:0≤(0:Int):=(by omega));(have aL:0<G.size:=(by have:(0:Int)<(G.size:Int):=of_decide_eq_true (by assumption);omega));have aX:∀h:0<G.size,((G[0]'h).toNat:Int)=bt G 0:=kY G 0;clear aR;have aW:(0<(G.size:Int))=True:=eq_true (of_decide_eq_true (by assumption));replace aL:=eq_true aL;go_wp2;go_meet;case rel=>exact⟨_,(((bt G 0)==48)),qr,H',⟨by have:=HJ4.out;have:=HK2.out;first|omega|exact Nat.le_refl _⟩,bka D,hba HB⟩
       have H':=mk0 H;clear H;go_wp2;go_meet;case rel=>exact⟨_,(true),qr,H',⟨by have:=HJ4.out;have:=HK2.out;first|omega|exact Nat.le_refl _⟩,bka D,hba HB⟩
      case rest=>
       clear au;obtain⟨kq,ae,rfl,HA,HJ18,D,HB⟩:=hcut;cases kq with
       |zero=>exact absurd HA.out (by simp[ko.j2])
       |succ kj18=>
        have H:=HA.out;clear HA;simp only[ko.j2]at H;replace H:=icb H;rcases H with⟨rfl,H⟩|⟨rfl,H⟩
        ·obtain⟨rfl,rfl,rfl⟩:=sj3 H;clear H;obtain⟨_,_,_,_⟩:=rG D.out;go_wp2;refine bodyPost_ret (kU rfl _ _ L 46 #[.int .i64 0, .int .u64 0] (0,0) _ rfl (by exact obk (eY (obk (eY (obk D.out) 0 _ rfl)) 1 _ rfl)) Tryz.underlying46 rfl (by kernel_rfl)) rfl ?_;exact⟨qe,bok HB.out⟩
        replace H:=bsm H;obtain⟨⟨ah,al⟩,ax,H⟩:=H;(try dsimp only at H);replace H:=icg H;rcases H with⟨aH,H⟩|⟨aH,H⟩
        ·obtain⟨rfl,rfl,rfl⟩:=sj3 H;clear H;go_wp2_with((refine gcl 79 (some 65) ?_;refine gca Tryz.func79 (strconv_Atoi.calls G ah al _ ax.out) ?_;rintro e a1⟨rfl,Z⟩;refine⟨_,rfl,?_⟩;replace D:=bkh D Z;replace HB:=bsh HB Z;(try clear Z);(try simp only[iO,iN]);obtain⟨_,_,_,_⟩:=rG D.out));refine bodyPost_ret (kU rfl _ _ L 46 #[.int .i64 0, .int .u64 0] (0,0) _ rfl (by exact obk (eY (obk (eY (obk D.out) 0 _ rfl)) 1 _ rfl)) Tryz.underlying46 rfl (by kernel_rfl)) rfl ?_;exact⟨qe,bok HB.out⟩
        replace H:=bsm H;obtain⟨⟨ak,aw⟩,aK,H⟩:=H;(try dsimp only at H);replace H:=ic H;rcases H with⟨ao,H⟩|⟨ao,H⟩
        ·have aF:=beq_iff_eq.mpr ao;have aC:=bne_eq_false_iff_eq.mpr ao;clear ao;replace H:=ic H;rcases H with⟨ap,H⟩|⟨ap,H⟩
         ·have aD:=beq_iff_eq.mpr ap;have aA:=bne_eq_false_iff_eq.mpr ap;clear ap;obtain⟨rfl,rfl,rfl⟩:=sj3 H;clear H;go_wp2_with(first|(refine gcl 79 (some 65) ?_;refine gca Tryz.func79 (strconv_Atoi.calls G ah al _ ax.out) ?_;rintro e a6⟨rfl,Z⟩;refine⟨_,rfl,?_⟩;replace D:=bkh D Z;replace HB:=bsh HB Z;(try clear Z);(try simp only[iO,iN]))|(refine gcl 57 (some 73) ?_;refine gca Tryz.func57 (rC.calls aa ak aw _ aK.out) ?_;rintro e a5⟨rfl,Z⟩;refine⟨_,rfl,?_⟩;replace D:=bkh D Z;replace HB:=bsh HB Z;(try clear Z);obtain⟨_,_,_,_⟩:=rG D.out));refine bodyPost_ret (kU rfl _ _ L 46 #[.int .i64 0, .int .u64 0] (0,0) _ rfl (by exact obk (eY (obk (eY (obk D.out) 0 _ rfl)) 1 _ rfl)) Tryz.underlying46 rfl (by kernel_rfl)) rfl ?_;exact⟨qe,bok HB.out⟩
         have aD:=beq_eq_false_iff_ne.mpr ap;have aA:=bne_iff_ne.mpr ap;obtain⟨rfl,rfl,rfl⟩:=sj3 H;clear H;go_wp2_with(first|(refine gcl 79 (some 65) ?_;refine gca Tryz.func79 (strconv_Atoi.calls G ah al _ ax.out) ?_;rintro e a2⟨rfl,Z⟩;refine⟨_,rfl,?_⟩;replace D:=bkh D Z;replace HB:=bsh HB Z;(try clear Z);(try simp only[iO,iN]))|(refine gcl 57 (some 73) ?_;refine gca Tryz.func57 (rC.calls aa ak aw _ aK.out) ?_;rintro e a4⟨rfl,Z⟩;refine⟨_,rfl,?_⟩;replace D:=bkh D Z;replace HB:=bsh HB Z;(try clear Z);obtain⟨_,_,_,_⟩:=rG D.out));refine bodyPost_ret (kU rfl _ _ L 46 #[.int .i64 ah, .int .u64 ak] (0,0) _ rfl (by exact obk (eY (obk (eY (obk D.out) 0 _ rfl)) 1 _ rfl)) Tryz.underlying46 rfl (by kernel_rfl)) rfl ?_;exact⟨qe,bok HB.out⟩
        have aF:=beq_eq_false_iff_ne.mpr ao;have aC:=bne_iff_ne.mpr ao;obtain⟨rfl,rfl,rfl⟩:=sj3 H;clear H;go_wp2_with(first|(refine gcl 79 (some 65) ?_;refine gca Tryz.func79 (strconv_Atoi.calls G ah al _ ax.out) ?_;rintro e aZ⟨rfl,Z⟩;refine⟨_,rfl,?_⟩;replace D:=bkh D Z;replace HB:=bsh HB Z;(try clear Z);(try simp only[iO,iN]))|(refine gcl 57 (some 73) ?_;refine gca Tryz.func57 (rC.calls aa ak aw _ aK.out) ?_;rintro e a3⟨rfl,Z⟩;refine⟨_,rfl,?_⟩;replace D:=bkh D Z;replace HB:=bsh HB Z;(try clear Z);obtain⟨_,_,_,_⟩:=rG D.out));refine bodyPost_ret (kU rfl _ _ L 46 #[.int .i64 0, .int .u64 0] (0,0) _ rfl (by exact obk (eY (obk (eY (obk D.out) 0 _ rfl)) 1 _ rfl)) Tryz.underlying46 rfl (by kernel_rfl)) rfl ?_;exact⟨qe,bok HB.out⟩
 replace c3:=Bool.eq_false_iff.mpr c3;subst c3;have H1:(some (0,0,2))=some (r1,r2,r3):=by rw[if_neg (show ¬(false=true) by decide)]at H;exact H
 clear H;have H:=H1;clear H1;obtain⟨rfl,rfl,rfl⟩:=sj3 H;clear H;go_enter Tryz.func58,Tryz.ntmps58;go_wp2_with(first|(refine gds 2 ?_;(try(refine qg (by rfl) ?_;dsimp only));refine bxe 2 (cs:=#[.int .i64 0, .int .u64 0]) (t:=46) ?_;intro L hg aU aj Z;have D:=mk0 aj;have aG:=glh hg HB;replace HB:=bsh HB Z;clear Z aj hg)|(refine gcl 73 (some 15) ?_;refine gca Tryz.func73 (strings_CutPrefix.calls a0 (⟨#[82]⟩:ByteArray) an false _ A2.out) ?_;rintro e aU⟨rfl,hq⟩;refine⟨_,rfl,?_⟩;replace D:=eB hq D;replace HB:=eW hq HB;clear hq;obtain⟨_,_,_,_⟩:=rG D.out));refine bodyPost_ret (kU rfl _ _ L 46 #[.int .i64 0, .int .u64 0] (0,0) _ rfl (by exact obk (eY (obk (eY (obk D.out) 0 _ rfl)) 1 _ rfl)) Tryz.underlying46 rfl (by kernel_rfl)) rfl ?_;exact⟨qe,bok HB.out⟩
end Go.Proofs.Q
