/- What Go functions compute, as plain Lean functions, and. -/
import Derived.Lib.PathFns
import Derived.Test.YtcaegaljhogbjaaGreatDoorGoto
set_option linter.unusedSimpArgs false
set_option linter.unusedVariables false
set_option maxHeartbeats 8000000
set_option maxRecDepth 100000
namespace Go.Proofs.B
open Ext RowKit PW PL PM
attribute [local go_sem] qI qH qV qW qz qA qM qL
def Bl:Option Int→Value
  |none=> .nilIface
  |some c=> .iface 0 (.int .i64 c)
theorem iO:Bl none= .nilIface:=rfl
theorem iN(c:Int):Bl (some c)= .iface 0 (.int .i64 c):=rfl
def rZ.l0:Nat→ByteArray→Int→Option (Int×Int×ByteArray)
 |0,_,_=>none
 |k+1,x0,x5=>if x5<(x0.size:Int)then(if 0≤x5 then(if(bt x0 x5)≥48 then(if(bt x0 x5)≤57 then(rZ.l0 k x0 (wrap64 (x5+1)))else(if x5<1 then(some (0,0,(⟨#[]⟩:ByteArray)))else(if x5>15 then(some (0,0,(⟨#[]⟩:ByteArray)))else(if x5=(x0.size:Int)then(some (0,0,(⟨#[]⟩:ByteArray)))else(if 0<(x0.size:Int)then(if(bt x0 0)=48 then(if x5>1 then(some (0,0,(⟨#[]⟩:ByteArray)))else(if x5≤(x0.size:Int)then((ku.f (x0.extract 0 (x5:Int).toNat) 10 64).bind fun G=>(if 0≤(wrap64 (x5+1))then(if(wrap64 (x5+1))≤(x0.size:Int)then(some (G.1,bt x0 x5,x0.extract ((wrap64 (x5+1)):Int).toNat x0.size))else(none))else(none)))else(none)))else(if x5≤(x0.size:Int)then((ku.f (x0.extract 0 (x5:Int).toNat) 10 64).bind fun D=>(if 0≤(wrap64 (x5+1))then(if(wrap64 (x5+1))≤(x0.size:Int)then(some (D.1,bt x0 x5,x0.extract ((wrap64 (x5+1)):Int).toNat x0.size))else(none))else(none)))else(none)))else(none))))))else(if x5<1 then(some (0,0,(⟨#[]⟩:ByteArray)))else(if x5>15 then(some (0,0,(⟨#[]⟩:ByteArray)))else(if x5=(x0.size:Int)then(some (0,0,(⟨#[]⟩:ByteArray)))else(if 0<(x0.size:Int)then(if(bt x0 0)=48 then(if x5>1 then(some (0,0,(⟨#[]⟩:ByteArray)))else(if x5≤(x0.size:Int)then((ku.f (x0.extract 0 (x5:Int).toNat) 10 64).bind fun I=>(if 0≤(wrap64 (x5+1))then(if(wrap64 (x5+1))≤(x0.size:Int)then(some (I.1,bt x0 x5,x0.extract ((wrap64 (x5+1)):Int).toNat x0.size))else(none))else(none)))else(none)))else(if x5≤(x0.size:Int)then((ku.f (x0.extract 0 (x5:Int).toNat) 10 64).bind fun L=>(if 0≤(wrap64 (x5+1))then(if(wrap64 (x5+1))≤(x0.size:Int)then(some (L.1,bt x0 x5,x0.extract ((wrap64 (x5+1)):Int).toNat x0.size))else(none))else(none)))else(none)))else(none))))))else(none))else(if x5<1 then(some (0,0,(⟨#[]⟩:ByteArray)))else(if x5>15 then(some (0,0,(⟨#[]⟩:ByteArray)))else(if x5=(x0.size:Int)then(some (0,0,(⟨#[]⟩:ByteArray)))else(if 0<(x0.size:Int)then(if(bt x0 0)=48 then(if x5>1 then(some (0,0,(⟨#[]⟩:ByteArray)))else(if 0≤x5 then(if x5≤(x0.size:Int)then((ku.f (x0.extract 0 (x5:Int).toNat) 10 64).bind fun U=>(none))else(none))else(none)))else(if 0≤x5 then(if x5≤(x0.size:Int)then((ku.f (x0.extract 0 (x5:Int).toNat) 10 64).bind fun X=>(none))else(none))else(none)))else(none)))))
def rZ.f(k:Nat)(D:ByteArray):Option (Int×Int×ByteArray):=rZ.l0 k D 0
theorem rZ.calls(k:Nat)(G:ByteArray)(r1:Int)(r2:Int)(r3:ByteArray)(w:World)(h:rZ.f k G=some (r1,r2,r3)):
  Calls Tryz.prog 75 #[.string G] w fun e w'=>e= .returned (.tuple #[.int .u64 r1, .int .u8 r2, .string r3])∧Below w.heap.size w w':=by
 have HB:=mk0 (Below.refl w.heap.size w);have H:(rZ.l0 k G 0)=some (r1,r2,r3):=h;clear h;have H':=mk0 H;clear H;go_enter Tryz.func75,Tryz.ntmps75;go_wp2;repeat(go_quiet(fail);try go_wp2)
 go_loopg [5] k (fun kq v5 w'=>∃(D:Int),v5= .int .i64 D∧eD (rZ.l0 kq G D=some (r1,r2,r3))∧eD (kq≤k)∧eD (Below w.heap.size w w'));case atStart=>exact⟨(0),qr,H',⟨Nat.le_refl _⟩,hba HB⟩
 case round=>
  clear H';obtain⟨D,rfl,HA,HK1,HB⟩:=hrel;cases gk with
  |zero=>exact absurd HA.out (by simp[rZ.l0])
  |succ k1=>
   have H:=HA.out;clear HA;simp only[rZ.l0]at H;replace H:=icd H;rcases H with⟨bG,H⟩|⟨bG,H⟩
   ·replace H:=idp H;obtain⟨_,H⟩:=H;replace H:=ich H;rcases H with⟨bI,H⟩|⟨bI,H⟩
    ·replace H:=icd H;rcases H with⟨bK,H⟩|⟨bK,H⟩
     ·have H':=mk0 H;clear H;have L:0≤(D:Int):=of_decide_eq_true (by assumption);have I:D<(G.size:Int):=of_decide_eq_true (by assumption);have X:=kY G D;replace L:=eq_true L;replace I:=eq_true I;have p6:0≤(D:Int):=of_decide_eq_true (by assumption);have q6:D<(G.size:Int):=of_decide_eq_true (by assumption);have aB:=kY G D;replace p6:=eq_true p6;replace q6:=eq_true q6;go_wp2;(repeat(go_quiet(fail);try go_wp2));go_roundg k1;(case measure=>have:=HK1.out;omega);case rel=>exact⟨(wrap64 (D+1)),qr,H',qk,hba HB⟩
     replace H:=icd H;rcases H with⟨bC,H⟩|⟨bC,H⟩
     ·obtain⟨rfl,rfl,rfl⟩:=sj3 H;clear H;have L:0≤(D:Int):=of_decide_eq_true (by assumption);have I:D<(G.size:Int):=of_decide_eq_true (by assumption);have X:=kY G D;replace L:=eq_true L;replace I:=eq_true I;have p6:0≤(D:Int):=of_decide_eq_true (by assumption);have q6:D<(G.size:Int):=of_decide_eq_true (by assumption);have aB:=kY G D;replace p6:=eq_true p6;replace q6:=eq_true q6;go_wp2;(repeat(go_quiet(fail);try go_wp2));go_ret3;exact⟨qe,bok HB.out⟩
     replace H:=icg H;rcases H with⟨bH,H⟩|⟨bH,H⟩
     ·obtain⟨rfl,rfl,rfl⟩:=sj3 H;clear H;have L:0≤(D:Int):=of_decide_eq_true (by assumption);have I:D<(G.size:Int):=of_decide_eq_true (by assumption);have X:=kY G D;replace L:=eq_true L;replace I:=eq_true I;have p6:0≤(D:Int):=of_decide_eq_true (by assumption);have q6:D<(G.size:Int):=of_decide_eq_true (by assumption);have aB:=kY G D;replace p6:=eq_true p6;replace q6:=eq_true q6;go_wp2;(repeat(go_quiet(fail);try go_wp2));go_ret3;exact⟨qe,bok HB.out⟩
     replace H:=ic H;rcases H with⟨c10,H⟩|⟨c10,H⟩
     ·have bo:=beq_iff_eq.mpr c10;have bq:=bne_eq_false_iff_eq.mpr c10;clear c10;obtain⟨rfl,rfl,rfl⟩:=sj3 H;clear H;have L:0≤(D:Int):=of_decide_eq_true (by assumption);have I:D<(G.size:Int):=of_decide_eq_true (by assumption);have X:=kY G D;replace L:=eq_true L;replace I:=eq_true I;have p6:0≤(D:Int):=of_decide_eq_true (by assumption);have q6:D<(G.size:Int):=of_decide_eq_true (by assumption);have aB:=kY G D;replace p6:=eq_true p6;replace q6:=eq_true q6;go_wp2;(repeat(go_quiet(fail);try go_wp2));go_ret3;exact⟨qe,bok HB.out⟩
     have bo:=beq_eq_false_iff_ne.mpr c10;have bq:=bne_iff_ne.mpr c10;replace H:=icp H;obtain⟨bE,H⟩:=H;have b6:=decide_eq_true bE;have ct:decide (0<G.size)=true:=decide_eq_true (by omega);clear bE;replace H:=ic H;rcases H with⟨ay,H⟩|⟨ay,H⟩
     ·have bn:=beq_iff_eq.mpr ay;have be:=bne_eq_false_iff_eq.mpr ay;clear ay;replace H:=icg H;rcases H with⟨bi,H⟩|⟨bi,H⟩
      ·obtain⟨rfl,rfl,rfl⟩:=sj3 H;clear H;have L:0≤(D:Int):=of_decide_eq_true (by assumption);have I:D<(G.size:Int):=of_decide_eq_true (by assumption);have X:=kY G D;replace L:=eq_true L;replace I:=eq_true I;have p6:0≤(D:Int):=of_decide_eq_true (by assumption);have q6:D<(G.size:Int):=of_decide_eq_true (by assumption);have aB:=kY G D;replace p6:=eq_true p6;replace q6:=eq_true q6;(have aG:0≤(0:Int):=(by omega));(have ae:0<G.size:=(by have:(0:Int)<(G.size:Int):=of_decide_eq_true (by assumption);omega));have aR:∀h:0<G.size,((G[0]'h).toNat:Int)=bt G 0:=kY G 0;clear aG;have aU:(0<(G.size:Int))=True:=eq_true (of_decide_eq_true (by assumption));replace ae:=eq_true ae;go_wp2;(repeat(go_quiet(fail);try go_wp2));go_ret3;exact⟨qe,bok HB.out⟩
      have cC:=eq_true (of_decide_eq_true (by assumption):0≤D);replace H:=icp H;obtain⟨bx,H⟩:=H;have ch:=eq_true bx;have cz:=decide_eq_true bx;clear bx;replace H:=bsm H;obtain⟨⟨ao,aJ⟩,aK,H⟩:=H;(try dsimp only at H);(obtain⟨ax,aa⟩:∃j_:Int,(wrap64 (D+1))=j_:=⟨_,rfl⟩);(replace H:(if 0≤(ax)then(if(ax)≤(G.size:Int)then(some (ao,bt G D,G.extract ((ax):Int).toNat G.size))else(none))else(none))=some (r1,r2,r3):=by first|(rw[aa]at H;exact H)|(simp only[aa]at H⊢;exact H));(try rw[aa]at aK);have bP:(IntKind.i64.wrap (D+1))=ax:=(kZ _).trans aa;replace H:=icp H;obtain⟨bd,H⟩:=H;have ck:=eq_true bd;have ce:=decide_eq_true bd;clear bd;replace H:=icp H;obtain⟨aW,H⟩:=H;have bQ:=eq_true aW;have cw:=decide_eq_true aW;clear aW;obtain⟨rfl,rfl,rfl⟩:=sj3 H;clear H;have L:0≤(D:Int):=of_decide_eq_true (by assumption);have I:D<(G.size:Int):=of_decide_eq_true (by assumption);have X:=kY G D;replace L:=eq_true L;replace I:=eq_true I;have p6:0≤(D:Int):=of_decide_eq_true (by assumption);have q6:D<(G.size:Int):=of_decide_eq_true (by assumption);have aB:=kY G D;replace p6:=eq_true p6;replace q6:=eq_true q6;(have aG:0≤(0:Int):=(by omega));(have ae:0<G.size:=(by have:(0:Int)<(G.size:Int):=of_decide_eq_true (by assumption);omega));have aR:∀h:0<G.size,((G[0]'h).toNat:Int)=bt G 0:=kY G 0;clear aG;have aU:(0<(G.size:Int))=True:=eq_true (of_decide_eq_true (by assumption));replace ae:=eq_true ae;go_wp2_with((go_at_call 94;refine(ku.calls (G.extract 0 (D:Int).toNat) 10 64 ao aJ _ aK.out).mono ?_;rintro e bD⟨rfl,U⟩;replace HB:=bsh HB U;(try clear U);(try simp only[iO,iN]);have ag:0≤(D:Int):=of_decide_eq_true (by assumption);have ah:D<(G.size:Int):=of_decide_eq_true (by assumption);have aQ:=kY G D;replace ag:=eq_true ag;replace ah:=eq_true ah));(repeat(go_quiet((go_at_call 94;refine(ku.calls (G.extract 0 (D:Int).toNat) 10 64 ao aJ _ aK.out).mono ?_;rintro e bD⟨rfl,U⟩;replace HB:=bsh HB U;(try clear U);(try simp only[iO,iN]);have ag:0≤(D:Int):=of_decide_eq_true (by assumption);have ah:D<(G.size:Int):=of_decide_eq_true (by assumption);have aQ:=kY G D;replace ag:=eq_true ag;replace ah:=eq_true ah));try go_wp2_with((go_at_call 94;refine(ku.calls (G.extract 0 (D:Int).toNat) 10 64 ao aJ _ aK.out).mono ?_;rintro e bD⟨rfl,U⟩;replace HB:=bsh HB U;(try clear U);(try simp only[iO,iN]);have ag:0≤(D:Int):=of_decide_eq_true (by assumption);have ah:D<(G.size:Int):=of_decide_eq_true (by assumption);have aQ:=kY G D;replace ag:=eq_true ag;replace ah:=eq_true ah))));go_ret3;exact⟨by first|rfl|(simp[iO,iN]<;>rfl)|(simp only[←aa];first|rfl|(simp[iO,iN]<;>rfl))|(simp[*,iO,iN]<;>rfl)|(simp[iO,iN];exact isEmpty_ne _),by exact bok HB.out⟩
     have bn:=beq_eq_false_iff_ne.mpr ay;have be:=bne_iff_ne.mpr ay;have b9:=eq_true (of_decide_eq_true (by assumption):0≤D);replace H:=icp H;obtain⟨ba,H⟩:=H;have cf:=eq_true ba;have b8:=decide_eq_true ba;clear ba;replace H:=bsm H;obtain⟨⟨aq,aH⟩,aL,H⟩:=H;(try dsimp only at H);(obtain⟨ar,Y⟩:∃j_:Int,(wrap64 (D+1))=j_:=⟨_,rfl⟩);(replace H:(if 0≤(ar)then(if(ar)≤(G.size:Int)then(some (aq,bt G D,G.extract ((ar):Int).toNat G.size))else(none))else(none))=some (r1,r2,r3):=by first|(rw[Y]at H;exact H)|(simp only[Y]at H⊢;exact H));(try rw[Y]at aL);have bN:(IntKind.i64.wrap (D+1))=ar:=(kZ _).trans Y;replace H:=icp H;obtain⟨bk,H⟩:=H;have bV:=eq_true bk;have cB:=decide_eq_true bk;clear bk;replace H:=icp H;obtain⟨aX,H⟩:=H;have bY:=eq_true aX;have cb:=decide_eq_true aX;clear aX;obtain⟨rfl,rfl,rfl⟩:=sj3 H;clear H;have L:0≤(D:Int):=of_decide_eq_true (by assumption);have I:D<(G.size:Int):=of_decide_eq_true (by assumption);have X:=kY G D;replace L:=eq_true L;replace I:=eq_true I;have p6:0≤(D:Int):=of_decide_eq_true (by assumption);have q6:D<(G.size:Int):=of_decide_eq_true (by assumption);have aB:=kY G D;replace p6:=eq_true p6;replace q6:=eq_true q6;(have aG:0≤(0:Int):=(by omega));(have ae:0<G.size:=(by have:(0:Int)<(G.size:Int):=of_decide_eq_true (by assumption);omega));have aR:∀h:0<G.size,((G[0]'h).toNat:Int)=bt G 0:=kY G 0;clear aG;have aU:(0<(G.size:Int))=True:=eq_true (of_decide_eq_true (by assumption));replace ae:=eq_true ae;go_wp2_with((go_at_call 94;refine(ku.calls (G.extract 0 (D:Int).toNat) 10 64 aq aH _ aL.out).mono ?_;rintro e bJ⟨rfl,U⟩;replace HB:=bsh HB U;(try clear U);(try simp only[iO,iN]);have am:0≤(D:Int):=of_decide_eq_true (by assumption);have al:D<(G.size:Int):=of_decide_eq_true (by assumption);have aP:=kY G D;replace am:=eq_true am;replace al:=eq_true al));(repeat(go_quiet((go_at_call 94;refine(ku.calls (G.extract 0 (D:Int).toNat) 10 64 aq aH _ aL.out).mono ?_;rintro e bJ⟨rfl,U⟩;replace HB:=bsh HB U;(try clear U);(try simp only[iO,iN]);have am:0≤(D:Int):=of_decide_eq_true (by assumption);have al:D<(G.size:Int):=of_decide_eq_true (by assumption);have aP:=kY G D;replace am:=eq_true am;replace al:=eq_true al));try go_wp2_with((go_at_call 94;refine(ku.calls (G.extract 0 (D:Int).toNat) 10 64 aq aH _ aL.out).mono ?_;rintro e bJ⟨rfl,U⟩;replace HB:=bsh HB U;(try clear U);(try simp only[iO,iN]);have am:0≤(D:Int):=of_decide_eq_true (by assumption);have al:D<(G.size:Int):=of_decide_eq_true (by assumption);have aP:=kY G D;replace am:=eq_true am;replace al:=eq_true al))));go_ret3;exact⟨by first|rfl|(simp[iO,iN]<;>rfl)|(simp only[←Y];first|rfl|(simp[iO,iN]<;>rfl))|(simp[*,iO,iN]<;>rfl)|(simp[iO,iN];exact isEmpty_ne _),by exact bok HB.out⟩
    replace H:=icd H;rcases H with⟨bb,H⟩|⟨bb,H⟩
    ·obtain⟨rfl,rfl,rfl⟩:=sj3 H;clear H;have L:0≤(D:Int):=of_decide_eq_true (by assumption);have I:D<(G.size:Int):=of_decide_eq_true (by assumption);have X:=kY G D;replace L:=eq_true L;replace I:=eq_true I;go_wp2;(repeat(go_quiet(fail);try go_wp2));go_ret3;exact⟨qe,bok HB.out⟩
    replace H:=icg H;rcases H with⟨a4,H⟩|⟨a4,H⟩
    ·obtain⟨rfl,rfl,rfl⟩:=sj3 H;clear H;have L:0≤(D:Int):=of_decide_eq_true (by assumption);have I:D<(G.size:Int):=of_decide_eq_true (by assumption);have X:=kY G D;replace L:=eq_true L;replace I:=eq_true I;go_wp2;(repeat(go_quiet(fail);try go_wp2));go_ret3;exact⟨qe,bok HB.out⟩
    replace H:=ic H;rcases H with⟨aD,H⟩|⟨aD,H⟩
    ·have bf:=beq_iff_eq.mpr aD;have aZ:=bne_eq_false_iff_eq.mpr aD;clear aD;obtain⟨rfl,rfl,rfl⟩:=sj3 H;clear H;have L:0≤(D:Int):=of_decide_eq_true (by assumption);have I:D<(G.size:Int):=of_decide_eq_true (by assumption);have X:=kY G D;replace L:=eq_true L;replace I:=eq_true I;go_wp2;(repeat(go_quiet(fail);try go_wp2));go_ret3;exact⟨qe,bok HB.out⟩
    have bf:=beq_eq_false_iff_ne.mpr aD;have aZ:=bne_iff_ne.mpr aD;replace H:=icp H;obtain⟨bF,H⟩:=H;have b3:=decide_eq_true bF;have bZ:decide (0<G.size)=true:=decide_eq_true (by omega);clear bF;replace H:=ic H;rcases H with⟨aA,H⟩|⟨aA,H⟩
    ·have bz:=beq_iff_eq.mpr aA;have bv:=bne_eq_false_iff_eq.mpr aA;clear aA;replace H:=icg H;rcases H with⟨br,H⟩|⟨br,H⟩
     ·obtain⟨rfl,rfl,rfl⟩:=sj3 H;clear H;have L:0≤(D:Int):=of_decide_eq_true (by assumption);have I:D<(G.size:Int):=of_decide_eq_true (by assumption);have X:=kY G D;replace L:=eq_true L;replace I:=eq_true I;(have aE:0≤(0:Int):=(by omega));(have af:0<G.size:=(by have:(0:Int)<(G.size:Int):=of_decide_eq_true (by assumption);omega));have aT:∀h:0<G.size,((G[0]'h).toNat:Int)=bt G 0:=kY G 0;clear aE;have aO:(0<(G.size:Int))=True:=eq_true (of_decide_eq_true (by assumption));replace af:=eq_true af;go_wp2;(repeat(go_quiet(fail);try go_wp2));go_ret3;exact⟨qe,bok HB.out⟩
     have b0:=eq_true (of_decide_eq_true (by assumption):0≤D);replace H:=icp H;obtain⟨bl,H⟩:=H;have cp:=eq_true bl;have ca:=decide_eq_true bl;clear bl;replace H:=bsm H;obtain⟨⟨aw,aI⟩,aN,H⟩:=H;(try dsimp only at H);(obtain⟨ap,ab⟩:∃j_:Int,(wrap64 (D+1))=j_:=⟨_,rfl⟩);(replace H:(if 0≤(ap)then(if(ap)≤(G.size:Int)then(some (aw,bt G D,G.extract ((ap):Int).toNat G.size))else(none))else(none))=some (r1,r2,r3):=by first|(rw[ab]at H;exact H)|(simp only[ab]at H⊢;exact H));(try rw[ab]at aN);have bM:(IntKind.i64.wrap (D+1))=ap:=(kZ _).trans ab;replace H:=icp H;obtain⟨a2,H⟩:=H;have cm:=eq_true a2;have b4:=decide_eq_true a2;clear a2;replace H:=icp H;obtain⟨aY,H⟩:=H;have bW:=eq_true aY;have bS:=decide_eq_true aY;clear aY;obtain⟨rfl,rfl,rfl⟩:=sj3 H;clear H;have L:0≤(D:Int):=of_decide_eq_true (by assumption);have I:D<(G.size:Int):=of_decide_eq_true (by assumption);have X:=kY G D;replace L:=eq_true L;replace I:=eq_true I;(have aE:0≤(0:Int):=(by omega));(have af:0<G.size:=(by have:(0:Int)<(G.size:Int):=of_decide_eq_true (by assumption);omega));have aT:∀h:0<G.size,((G[0]'h).toNat:Int)=bt G 0:=kY G 0;clear aE;have aO:(0<(G.size:Int))=True:=eq_true (of_decide_eq_true (by assumption));replace af:=eq_true af;go_wp2_with((go_at_call 94;refine(ku.calls (G.extract 0 (D:Int).toNat) 10 64 aw aI _ aN.out).mono ?_;rintro e bB⟨rfl,U⟩;replace HB:=bsh HB U;(try clear U);(try simp only[iO,iN]);have ak:0≤(D:Int):=of_decide_eq_true (by assumption);have ai:D<(G.size:Int):=of_decide_eq_true (by assumption);have aV:=kY G D;replace ak:=eq_true ak;replace ai:=eq_true ai));(repeat(go_quiet((go_at_call 94;refine(ku.calls (G.extract 0 (D:Int).toNat) 10 64 aw aI _ aN.out).mono ?_;rintro e bB⟨rfl,U⟩;replace HB:=bsh HB U;(try clear U);(try simp only[iO,iN]);have ak:0≤(D:Int):=of_decide_eq_true (by assumption);have ai:D<(G.size:Int):=of_decide_eq_true (by assumption);have aV:=kY G D;replace ak:=eq_true ak;replace ai:=eq_true ai));try go_wp2_with((go_at_call 94;refine(ku.calls (G.extract 0 (D:Int).toNat) 10 64 aw aI _ aN.out).mono ?_;rintro e bB⟨rfl,U⟩;replace HB:=bsh HB U;(try clear U);(try simp only[iO,iN]);have ak:0≤(D:Int):=of_decide_eq_true (by assumption);have ai:D<(G.size:Int):=of_decide_eq_true (by assumption);have aV:=kY G D;replace ak:=eq_true ak;replace ai:=eq_true ai))));go_ret3;exact⟨by first|rfl|(simp[iO,iN]<;>rfl)|(simp only[←ab];first|rfl|(simp[iO,iN]<;>rfl))|(simp[*,iO,iN]<;>rfl)|(simp[iO,iN];exact isEmpty_ne _),by exact bok HB.out⟩
    have bz:=beq_eq_false_iff_ne.mpr aA;have bv:=bne_iff_ne.mpr aA;have cr:=eq_true (of_decide_eq_true (by assumption):0≤D);replace H:=icp H;obtain⟨a8,H⟩:=H;have cA:=eq_true a8;have bU:=decide_eq_true a8;clear a8;replace H:=bsm H;obtain⟨⟨av,aF⟩,aM,H⟩:=H;(try dsimp only at H);(obtain⟨au,Z⟩:∃j_:Int,(wrap64 (D+1))=j_:=⟨_,rfl⟩);(replace H:(if 0≤(au)then(if(au)≤(G.size:Int)then(some (av,bt G D,G.extract ((au):Int).toNat G.size))else(none))else(none))=some (r1,r2,r3):=by first|(rw[Z]at H;exact H)|(simp only[Z]at H⊢;exact H));(try rw[Z]at aM);have bO:(IntKind.i64.wrap (D+1))=au:=(kZ _).trans Z;replace H:=icp H;obtain⟨bc,H⟩:=H;have ci:=eq_true bc;have bX:=decide_eq_true bc;clear bc;replace H:=icp H;obtain⟨a7,H⟩:=H;have bR:=eq_true a7;have cg:=decide_eq_true a7;clear a7;obtain⟨rfl,rfl,rfl⟩:=sj3 H;clear H;have L:0≤(D:Int):=of_decide_eq_true (by assumption);have I:D<(G.size:Int):=of_decide_eq_true (by assumption);have X:=kY G D;replace L:=eq_true L;replace I:=eq_true I;(have aE:0≤(0:Int):=(by omega));(have af:0<G.size:=(by have:(0:Int)<(G.size:Int):=of_decide_eq_true (by assumption);omega));have aT:∀h:0<G.size,((G[0]'h).toNat:Int)=bt G 0:=kY G 0;clear aE;have aO:(0<(G.size:Int))=True:=eq_true (of_decide_eq_true (by assumption));replace af:=eq_true af;go_wp2_with((go_at_call 94;refine(ku.calls (G.extract 0 (D:Int).toNat) 10 64 av aF _ aM.out).mono ?_;rintro e bL⟨rfl,U⟩;replace HB:=bsh HB U;(try clear U);(try simp only[iO,iN]);have an:0≤(D:Int):=of_decide_eq_true (by assumption);have aj:D<(G.size:Int):=of_decide_eq_true (by assumption);have aS:=kY G D;replace an:=eq_true an;replace aj:=eq_true aj));(repeat(go_quiet((go_at_call 94;refine(ku.calls (G.extract 0 (D:Int).toNat) 10 64 av aF _ aM.out).mono ?_;rintro e bL⟨rfl,U⟩;replace HB:=bsh HB U;(try clear U);(try simp only[iO,iN]);have an:0≤(D:Int):=of_decide_eq_true (by assumption);have aj:D<(G.size:Int):=of_decide_eq_true (by assumption);have aS:=kY G D;replace an:=eq_true an;replace aj:=eq_true aj));try go_wp2_with((go_at_call 94;refine(ku.calls (G.extract 0 (D:Int).toNat) 10 64 av aF _ aM.out).mono ?_;rintro e bL⟨rfl,U⟩;replace HB:=bsh HB U;(try clear U);(try simp only[iO,iN]);have an:0≤(D:Int):=of_decide_eq_true (by assumption);have aj:D<(G.size:Int):=of_decide_eq_true (by assumption);have aS:=kY G D;replace an:=eq_true an;replace aj:=eq_true aj))));go_ret3;exact⟨by first|rfl|(simp[iO,iN]<;>rfl)|(simp only[←Z];first|rfl|(simp[iO,iN]<;>rfl))|(simp[*,iO,iN]<;>rfl)|(simp[iO,iN];exact isEmpty_ne _),by exact bok HB.out⟩
   replace H:=icd H;rcases H with⟨bw,H⟩|⟨bw,H⟩
   ·obtain⟨rfl,rfl,rfl⟩:=sj3 H;clear H;go_wp2;(repeat(go_quiet(fail);try go_wp2));go_ret3;exact⟨qe,bok HB.out⟩
   replace H:=icg H;rcases H with⟨a5,H⟩|⟨a5,H⟩
   ·obtain⟨rfl,rfl,rfl⟩:=sj3 H;clear H;go_wp2;(repeat(go_quiet(fail);try go_wp2));go_ret3;exact⟨qe,bok HB.out⟩
   replace H:=ic H;rcases H with⟨aC,H⟩|⟨aC,H⟩
   ·have a1:=beq_iff_eq.mpr aC;have bm:=bne_eq_false_iff_eq.mpr aC;clear aC;obtain⟨rfl,rfl,rfl⟩:=sj3 H;clear H;go_wp2;(repeat(go_quiet(fail);try go_wp2));go_ret3;exact⟨qe,bok HB.out⟩
   have a1:=beq_eq_false_iff_ne.mpr aC;have bm:=bne_iff_ne.mpr aC;replace H:=ic H;rcases H with⟨a3,H⟩|⟨a3,H⟩
   ·have cv:=decide_eq_true a3;have cj:decide (0<G.size)=true:=decide_eq_true (by omega);clear a3;replace H:=ic H;rcases H with⟨az,H⟩|⟨az,H⟩
    ·have bp:=beq_iff_eq.mpr az;have bu:=bne_eq_false_iff_eq.mpr az;clear az;replace H:=icg H;rcases H with⟨bh,H⟩|⟨bh,H⟩
     ·obtain⟨rfl,rfl,rfl⟩:=sj3 H;clear H;(have cd:0≤(0:Int):=(by omega));(have bA:0<G.size:=(by have:(0:Int)<(G.size:Int):=of_decide_eq_true (by assumption);omega));have cD:∀h:0<G.size,((G[0]'h).toNat:Int)=bt G 0:=kY G 0;clear cd;have cE:(0<(G.size:Int))=True:=eq_true (of_decide_eq_true (by assumption));replace bA:=eq_true bA;go_wp2;(repeat(go_quiet(fail);try go_wp2));go_ret3;exact⟨qe,bok HB.out⟩
     replace H:=icp H;obtain⟨bj,H⟩:=H;have cy:=eq_true bj;have bT:=decide_eq_true bj;clear bj;replace H:=icp H;obtain⟨a6,H⟩:=H;have b7:=eq_true a6;have co:=decide_eq_true a6;clear a6;replace H:=bsm H;obtain⟨⟨_,_⟩,_,H⟩:=H;(try dsimp only at H);exact absurd H (by simp)
    have bp:=beq_eq_false_iff_ne.mpr az;have bu:=bne_iff_ne.mpr az;replace H:=icp H;obtain⟨a9,H⟩:=H;have cx:=eq_true a9;have b5:=decide_eq_true a9;clear a9;replace H:=icp H;obtain⟨bs,H⟩:=H;have cn:=eq_true bs;have cq:=decide_eq_true bs;clear bs;replace H:=bsm H;obtain⟨⟨_,_⟩,_,H⟩:=H;(try dsimp only at H);exact absurd H (by simp)
   exact absurd H (by simp)
def uy.f(I:Int)(G:Int):Option (Int×Bool):=(bits_Mul64.f I G).bind fun D=>(if D.1=0 then(some (D.2,true))else(some (0,false)))
theorem uy.calls(U:Int)(X:Int)(r1:Int)(r2:Bool)(w:World)(h:uy.f U X=some (r1,r2)):
  Calls Tryz.prog 95 #[.int .u64 U, .int .u64 X] w fun e w'=>e= .returned (.tuple #[.int .u64 r1, .bool r2])∧qm w w':=by
 unfold uy.f at h;have H:=h;clear h;replace H:=bsm H;obtain⟨⟨G,D⟩,Y,H⟩:=H;(try dsimp only at H);replace H:=ic H;rcases H with⟨c4,H⟩|⟨c4,H⟩
 ·have I:=beq_iff_eq.mpr c4;have L:=bne_eq_false_iff_eq.mpr c4;clear c4;obtain⟨rfl,rfl⟩:=sj2 H;clear H;go_enter Tryz.func95,Tryz.ntmps95;go_wp2_with((refine gcl 117 (some 11) ?_;refine gca Tryz.func117 (bits_Mul64.calls U X G D _ Y.out) ?_;rintro e w'⟨rfl,⟨nd,rfl⟩⟩;refine⟨_,rfl,?_⟩));go_ret2;exact⟨by first|rfl|(simp;done)|(simp[*];done)|(simp;exact isEmpty_ne _),qd⟩
 have I:=beq_eq_false_iff_ne.mpr c4;have L:=bne_iff_ne.mpr c4;obtain⟨rfl,rfl⟩:=sj2 H;clear H;go_enter Tryz.func95,Tryz.ntmps95;go_wp2_with((refine gcl 117 (some 11) ?_;refine gca Tryz.func117 (bits_Mul64.calls U X G D _ Y.out) ?_;rintro e w'⟨rfl,⟨nd,rfl⟩⟩;refine⟨_,rfl,?_⟩));go_ret2;exact⟨by first|rfl|(simp;done)|(simp[*];done)|(simp;exact isEmpty_ne _),qd⟩
def tK.f(G:Int)(I:Int):Option (Int):=(wo.f G I).bind fun D=>(if D.2=true then(some D.1)else(some 18446744073709551615))
theorem tK.calls(G:Int)(I:Int)(r:Int)(w:World)(h:tK.f G I=some r):
  Calls Tryz.prog 96 #[.int .u64 G, .int .u64 I] w fun e w'=>e= .returned (.int .u64 r)∧qm w w':=by
 unfold tK.f at h;have H:=h;clear h;replace H:=bsm H;obtain⟨⟨D,_⟩,L,H⟩:=H;(try dsimp only at H);replace H:=icb H;rcases H with⟨rfl,H⟩|⟨rfl,H⟩
 ·obtain rfl:=Option.some.inj H;go_enter Tryz.func96,Tryz.ntmps96;go_wp2_with((refine gcl 118 (some 10) ?_;refine gca Tryz.func118 (wo.calls G I D true _ L.out) ?_;rintro e w'⟨rfl,⟨nd,rfl⟩⟩;refine⟨_,rfl,?_⟩));go_ret;exact⟨by first|rfl|(simp;done)|(simp[*];done)|(simp;exact isEmpty_ne _),qd⟩
 obtain rfl:=Option.some.inj H;go_enter Tryz.func96,Tryz.ntmps96;go_wp2_with((refine gcl 118 (some 10) ?_;refine gca Tryz.func118 (wo.calls G I D false _ L.out) ?_;rintro e w'⟨rfl,⟨nd,rfl⟩⟩;refine⟨_,rfl,?_⟩));go_ret;exact⟨by first|rfl|(simp;done)|(simp[*];done)|(simp;exact isEmpty_ne _),qd⟩
def vU.f(U:Int)(Y:Int)(X:Int):Option (Int):=(uy.f Y X).bind fun D=>(if D.2=true then((tK.f U D.1).bind fun I=>(some I))else((tK.f 1125899906842624 1).bind fun G=>((tK.f U G).bind fun L=>(some L))))
theorem vU.calls(U:Int)(Y:Int)(X:Int)(r:Int)(w:World)(h:vU.f U Y X=some r):
  Calls Tryz.prog 76 #[.int .u64 U, .int .u64 Y, .int .u64 X] w fun e w'=>e= .returned (.int .u64 r)∧qm w w':=by
 unfold vU.f at h;have H:=h;clear h;replace H:=bsm H;obtain⟨⟨D,_⟩,Z,H⟩:=H;(try dsimp only at H);replace H:=icb H;rcases H with⟨rfl,H⟩|⟨rfl,H⟩
 ·replace H:=bsm H;obtain⟨I,A6,H⟩:=H;obtain rfl:=Option.some.inj H;go_enter Tryz.func76,Tryz.ntmps76;go_wp2_with(first|(refine gcl 95 (some 12) ?_;refine gca Tryz.func95 (uy.calls Y X D true _ Z.out) ?_;rintro e w'⟨rfl,⟨nd,rfl⟩⟩;refine⟨_,rfl,?_⟩)|(refine gcl 96 (some 20) ?_;refine gca Tryz.func96 (tK.calls U D I _ A6.out) ?_;rintro e w'⟨rfl,⟨nd,rfl⟩⟩;refine⟨_,rfl,?_⟩));go_ret;exact⟨by first|rfl|(simp;done)|(simp[*];done)|(simp;exact isEmpty_ne _),qd⟩
 replace H:=bsm H;obtain⟨G,A7,H⟩:=H;replace H:=bsm H;obtain⟨L,A8,H⟩:=H;obtain rfl:=Option.some.inj H;go_enter Tryz.func76,Tryz.ntmps76;go_wp2_with(first|(refine gcl 95 (some 12) ?_;refine gca Tryz.func95 (uy.calls Y X D false _ Z.out) ?_;rintro e w'⟨rfl,⟨nd,rfl⟩⟩;refine⟨_,rfl,?_⟩)|(refine gcl 96 (some 17) ?_;refine gca Tryz.func96 (tK.calls 1125899906842624 1 G _ A7.out) ?_;rintro e w'⟨rfl,⟨nd,rfl⟩⟩;refine⟨_,rfl,?_⟩)|(refine gcl 96 (some 20) ?_;refine gca Tryz.func96 (tK.calls U G L _ A8.out) ?_;rintro e w'⟨rfl,⟨nd,rfl⟩⟩;refine⟨_,rfl,?_⟩));go_ret;exact⟨by first|rfl|(simp;done)|(simp[*];done)|(simp;exact isEmpty_ne _),qd⟩
def stringslite_HasPrefix.f(G:ByteArray)(D:ByteArray):Option (Bool):=if(G.size:Int)≥(D.size:Int)then(if 0≤(D.size:Int)then(if(D.size:Int)≤(G.size:Int)then(some ((G.extract 0 ((D.size:Int):Int).toNat).toList==D.toList))else(none))else(none))else(some false)
theorem stringslite_HasPrefix.calls(D:ByteArray)(G:ByteArray)(r:Bool)(w:World)(h:stringslite_HasPrefix.f D G=some r):
  Calls Tryz.prog 93 #[.string D, .string G] w fun e w'=>e= .returned (.bool r)∧qm w w':=by
 unfold stringslite_HasPrefix.f at h;have H:=h;clear h;replace H:=ic H;rcases H with⟨c3,H⟩|⟨c3,H⟩
 ·have L:decide ((G.size:Int)≤(D.size:Int))=true:=decide_eq_true c3;have I:decide (G.size≤D.size)=true:=decide_eq_true (Int.ofNat_le.mp c3);clear c3;replace H:=icp H;obtain⟨c4,H⟩:=H;have U:=eq_true c4;have Y:=decide_eq_true c4;clear c4;replace H:=icp H;obtain⟨c5,H⟩:=H;have X:=eq_true c5;have Z:=decide_eq_true c5;clear c5;obtain rfl:=Option.some.inj H;go_enter Tryz.func93,Tryz.ntmps93;go_wp2;go_ret;exact⟨by first|rfl|(simp;done)|(simp[*];done)|(simp;exact isEmpty_ne _),qd⟩
 have L:decide ((G.size:Int)≤(D.size:Int))=false:=decide_eq_false c3;have I:decide (G.size≤D.size)=false:=decide_eq_false (fun h=>c3 (Int.ofNat_le.mpr h));clear c3;obtain rfl:=Option.some.inj H;go_enter Tryz.func93,Tryz.ntmps93;go_wp2;go_ret;exact⟨by first|rfl|(simp;done)|(simp[*];done)|(simp;exact isEmpty_ne _),qd⟩
def stringslite_CutPrefix.f(G:ByteArray)(I:ByteArray):Option (ByteArray×Bool):=(stringslite_HasPrefix.f G I).bind fun D=>(if D=true then(if 0≤(I.size:Int)then(if(I.size:Int)≤(G.size:Int)then(some (G.extract ((I.size:Int):Int).toNat G.size,true))else(none))else(none))else(some (G,false)))
theorem stringslite_CutPrefix.calls(G:ByteArray)(D:ByteArray)(r1:ByteArray)(r2:Bool)(w:World)(h:stringslite_CutPrefix.f G D=some (r1,r2)):
  Calls Tryz.prog 92 #[.string G, .string D] w fun e w'=>e= .returned (.tuple #[.string r1, .bool r2])∧qm w w':=by
 unfold stringslite_CutPrefix.f at h;have H:=h;clear h;replace H:=bsm H;obtain⟨_,X,H⟩:=H;replace H:=icb H;rcases H with⟨rfl,H⟩|⟨rfl,H⟩
 ·replace H:=icp H;obtain⟨c5,H⟩:=H;have U:=eq_true c5;have L:=decide_eq_true c5;clear c5;replace H:=icp H;obtain⟨c6,H⟩:=H;have I:=eq_true c6;have Y:=decide_eq_true c6;clear c6;obtain⟨rfl,rfl⟩:=sj2 H;clear H;go_enter Tryz.func92,Tryz.ntmps92;go_wp2_with((refine gcl 93 (some 8) ?_;refine gca Tryz.func93 (stringslite_HasPrefix.calls G D true _ X.out) ?_;rintro e w'⟨rfl,⟨nd,rfl⟩⟩;refine⟨_,rfl,?_⟩));go_ret2;exact⟨by first|rfl|(simp;done)|(simp[*];done)|(simp;exact isEmpty_ne _),qd⟩
 obtain⟨rfl,rfl⟩:=sj2 H;clear H;go_enter Tryz.func92,Tryz.ntmps92;go_wp2_with((refine gcl 93 (some 8) ?_;refine gca Tryz.func93 (stringslite_HasPrefix.calls G D false _ X.out) ?_;rintro e w'⟨rfl,⟨nd,rfl⟩⟩;refine⟨_,rfl,?_⟩));go_ret2;exact⟨by first|rfl|(simp;done)|(simp[*];done)|(simp;exact isEmpty_ne _),qd⟩
def strings_CutPrefix.f(G:ByteArray)(I:ByteArray):Option (ByteArray×Bool):=(stringslite_CutPrefix.f G I).bind fun D=>(some (D.1,D.2))
theorem strings_CutPrefix.calls(I:ByteArray)(L:ByteArray)(r1:ByteArray)(r2:Bool)(w:World)(h:strings_CutPrefix.f I L=some (r1,r2)):
  Calls Tryz.prog 73 #[.string I, .string L] w fun e w'=>e= .returned (.tuple #[.string r1, .bool r2])∧qm w w':=by
 unfold strings_CutPrefix.f at h;have H:=h;clear h;replace H:=bsm H;obtain⟨⟨D,G⟩,U,H⟩:=H;(try dsimp only at H);obtain⟨rfl,rfl⟩:=sj2 H;clear H;go_enter Tryz.func73,Tryz.ntmps73;go_wp2_with((refine gcl 92 (some 8) ?_;refine gca Tryz.func92 (stringslite_CutPrefix.calls I L D G _ U.out) ?_;rintro e w'⟨rfl,⟨_,rfl⟩⟩;refine⟨_,rfl,?_⟩));go_ret2;exact⟨by first|rfl|(simp;done)|(simp[*];done)|(simp;exact isEmpty_ne _),qd⟩
mutual
def eU.j1:Nat→ByteArray→Int→Int→Option (Int×Int×Bool)
 |0,_,_,_=>none
 |k+1,x0,x1,x7=>if x7=x1 then(eU.j2 k x0 x1 x7 true)else(if(wrap64 (x7-x1))>15 then(eU.j2 k x0 x1 x7 true)else(if 0≤x1 then(if x1<(x0.size:Int)then(if(bt x0 x1)=48 then(eU.j2 k x0 x1 x7 (decide ((wrap64 (x7-x1))>1)))else(eU.j2 k x0 x1 x7 false))else(none))else(none)))
def eU.j2:Nat→ByteArray→Int→Int→Bool→Option (Int×Int×Bool)
 |0,_,_,_,_=>none
 |k+1,x0,x1,x7,x49=>if x49=true then(some (0,x1,false))else(eU.l1 k x0 x7 0 x1)
def eU.l1:Nat→ByteArray→Int→Int→Int→Option (Int×Int×Bool)
 |0,_,_,_,_=>none
 |k+1,x0,x7,x8,x9=>if x9<x7 then(if 0≤x9 then(if x9<(x0.size:Int)then(eU.l1 k x0 x7 (IntKind.u64.wrap ((IntKind.u64.wrap (x8*10))+(((bt x0 x9)-48)%256))) (wrap64 (x9+1)))else(none))else(none))else(some (x8,x7,true))
def eU.l0:Nat→ByteArray→Int→Int→Option (Int×Int×Bool)
 |0,_,_,_=>none
 |k+1,x0,x1,x7=>if x7<(x0.size:Int)then(if 0≤x7 then(if(bt x0 x7)≥48 then(if(bt x0 x7)≤57 then(eU.l0 k x0 x1 (wrap64 (x7+1)))else(eU.j1 k x0 x1 x7))else(eU.j1 k x0 x1 x7))else(none))else(eU.j1 k x0 x1 x7)
end
def eU.f(k:Nat)(G:ByteArray)(D:Int):Option (Int×Int×Bool):=eU.l0 k G D D
theorem eU.calls(k:Nat)(I:ByteArray)(Z:Int)(r1:Int)(r2:Int)(r3:Bool)(w:World)(h:eU.f k I Z=some (r1,r2,r3)):
  Calls Tryz.prog 110 #[.string I, .int .i64 Z] w fun e w'=>e= .returned (.tuple #[.int .u64 r1, .int .i64 r2, .bool r3])∧qm w w':=by
 have H:(eU.l0 k I Z Z)=some (r1,r2,r3):=h;clear h;have al:=mk0 H;clear H;go_enter Tryz.func110,Tryz.ntmps110;go_upto_block 0 with(fail)
 go_cut [7] (fun v7 wc=>∃(kq:Nat) (L:Int),v7= .int .i64 L∧eD (eU.j1 kq I Z L=some (r1,r2,r3))∧eD (kq≤k)∧qm w wc)
 case first=>
  have H:=al.out;clear al;have X:=mk0 H;clear H;go_wp2;go_loopg [7] k (fun kq v7 w'=>∃(D:Int),v7= .int .i64 D∧eD (eU.l0 kq I Z D=some (r1,r2,r3))∧eD (kq≤k)∧qm w w');case atStart=>exact⟨(Z),qr,X,⟨Nat.le_refl _⟩,qd⟩
  case round=>
   clear X;obtain⟨D,rfl,HA,HK1,⟨m1,rfl⟩⟩:=hrel;cases gk with
   |zero=>exact absurd HA.out (by simp[eU.l0])
   |succ k1=>
    have H:=HA.out;clear HA;simp only[eU.l0]at H;replace H:=icd H;rcases H with⟨aa,H⟩|⟨aa,H⟩
    ·(first|rw[aa]|(simp only[kZ,qY];rw[aa])|skip);replace H:=idp H;obtain⟨_,H⟩:=H;replace H:=ich H;rcases H with⟨aq,H⟩|⟨aq,H⟩
     ·replace H:=icd H;rcases H with⟨aw,H⟩|⟨aw,H⟩
      ·have X:=mk0 H;clear H;have p6:0≤(D:Int):=of_decide_eq_true (by assumption);have q6:D<(I.size:Int):=of_decide_eq_true (by assumption);have au:=kY I D;replace p6:=eq_true p6;replace q6:=eq_true q6;have p8:0≤(D:Int):=of_decide_eq_true (by assumption);have q8:D<(I.size:Int):=of_decide_eq_true (by assumption);have ay:=kY I D;replace p8:=eq_true p8;replace q8:=eq_true q8;go_wp2;go_roundg k1;(case measure=>have:=HK1.out;omega);case rel=>exact⟨(wrap64 (D+1)),qr,X,qk,qd⟩
      have X:=mk0 H;clear H;have p6:0≤(D:Int):=of_decide_eq_true (by assumption);have q6:D<(I.size:Int):=of_decide_eq_true (by assumption);have au:=kY I D;replace p6:=eq_true p6;replace q6:=eq_true q6;have p8:0≤(D:Int):=of_decide_eq_true (by assumption);have q8:D<(I.size:Int):=of_decide_eq_true (by assumption);have ay:=kY I D;replace p8:=eq_true p8;replace q8:=eq_true q8;go_wp2;go_meet;case rel=>exact⟨_,(D),qr,X,qkl,qd⟩
     have X:=mk0 H;clear H;have p6:0≤(D:Int):=of_decide_eq_true (by assumption);have q6:D<(I.size:Int):=of_decide_eq_true (by assumption);have au:=kY I D;replace p6:=eq_true p6;replace q6:=eq_true q6;go_wp2;go_meet;case rel=>exact⟨_,(D),qr,X,qkl,qd⟩
    (first|rw[aa]|(simp only[kZ,qY];rw[aa])|skip);have X:=mk0 H;clear H;go_wp2;go_meet;case rel=>exact⟨_,(D),qr,X,qkl,qd⟩
 case rest=>
  clear al;obtain⟨kq,L,rfl,HA,HJ2,⟨_,rfl⟩⟩:=hcut;cases kq with
  |zero=>exact absurd HA.out (by simp[eU.j1])
  |succ kj2=>
   have H:=HA.out;clear HA;simp only[eU.j1]at H;have ah:=mk0 H;clear H;(go_upto_region 4 with(fail));go_cut [49] (fun az wc=>∃(kq:Nat) (Y:Bool),az= .bool Y∧eD (eU.j2 kq I Z L Y=some (r1,r2,r3))∧eD (kq≤kj2)∧qm w wc)
   case first=>
    have H:=ah.out;clear ah;replace H:=ic H;rcases H with⟨ae,H⟩|⟨ae,H⟩
    ·have U:=beq_iff_eq.mpr ae;have an:=bne_eq_false_iff_eq.mpr ae;clear ae;(first|rw[U]|(simp only[kZ,qY];rw[U])|skip);have X:=mk0 H;clear H;go_wp2;go_meet;case rel=>exact⟨_,(true),qr,X,(qj HJ2),qd⟩
    have U:=beq_eq_false_iff_ne.mpr ae;have an:=bne_iff_ne.mpr ae;(first|rw[U]|(simp only[kZ,qY];rw[U])|skip);replace H:=icg H;rcases H with⟨ap,H⟩|⟨ap,H⟩
    ·have X:=mk0 H;clear H;go_wp2;go_meet;case rel=>exact⟨_,(true),qr,X,(qj HJ2),qd⟩
    replace H:=idp H;obtain⟨_,H⟩:=H;replace H:=idp H;obtain⟨_,H⟩:=H;replace H:=ic H;rcases H with⟨af,H⟩|⟨af,H⟩
    ·have ak:=beq_iff_eq.mpr af;have am:=bne_eq_false_iff_eq.mpr af;clear af;have X:=mk0 H;clear H;have ag:0≤(Z:Int):=of_decide_eq_true (by assumption);have ai:Z<(I.size:Int):=of_decide_eq_true (by assumption);have ar:=kY I Z;replace ag:=eq_true ag;replace ai:=eq_true ai;go_wp2;go_meet;case rel=>exact⟨_,(decide ((wrap64 (L-Z))>1)),qr,X,(qj HJ2),qd⟩
    have ak:=beq_eq_false_iff_ne.mpr af;have am:=bne_iff_ne.mpr af;have X:=mk0 H;clear H;have ag:0≤(Z:Int):=of_decide_eq_true (by assumption);have ai:Z<(I.size:Int):=of_decide_eq_true (by assumption);have ar:=kY I Z;replace ag:=eq_true ag;replace ai:=eq_true ai;go_wp2;go_meet;case rel=>exact⟨_,(false),qr,X,(qj HJ2),qd⟩
   case rest=>
    clear ah;obtain⟨kq,Y,rfl,HA,HJ9,⟨_,rfl⟩⟩:=hcut;cases kq with
    |zero=>exact absurd HA.out (by simp[eU.j2])
    |succ kj9=>
     have H:=HA.out;clear HA;simp only[eU.j2]at H;by_cases aj:Y=true
     ·subst aj;(have H1:(some (0,Z,false))=some (r1,r2,r3):=by rw[if_pos rfl]at H;exact H);clear H;have H:=H1;clear H1;obtain⟨rfl,rfl,rfl⟩:=sj3 H;clear H;go_wp2;go_ret3;exact⟨by first|rfl|(simp;done)|(simp[*];done)|(simp;exact isEmpty_ne _),qd⟩
     replace aj:=Bool.eq_false_iff.mpr aj;subst aj;(have H1:(eU.l1 kj9 I L 0 Z)=some (r1,r2,r3):=by rw[if_neg (show ¬(false=true) by decide)]at H;exact H);clear H;have H:=H1;clear H1;have X:=mk0 H;clear H;go_wp2;go_loopg [8,9] kj9 (fun kq v8 v9 w'=>∃(ab:Int) (G:Int),v8= .int .u64 ab∧v9= .int .i64 G∧eD (eU.l1 kq I L ab G=some (r1,r2,r3))∧eD (kq≤kj9)∧qm w w');case atStart=>exact⟨(0),(Z),qr,qr,X,⟨Nat.le_refl _⟩,qd⟩
     case round=>
      clear X;obtain⟨ab,G,rfl,rfl,HA,HK3,⟨m3,rfl⟩⟩:=hrel;cases gk with
      |zero=>exact absurd HA.out (by simp[eU.l1])
      |succ k3=>
       have H:=HA.out;clear HA;simp only[eU.l1]at H;replace H:=icd H;rcases H with⟨ao,H⟩|⟨ao,H⟩
       ·replace H:=idp H;obtain⟨_,H⟩:=H;replace H:=idp H;obtain⟨_,H⟩:=H;have X:=mk0 H;clear H;have ax:0≤(G:Int):=of_decide_eq_true (by assumption);have av:G<(I.size:Int):=of_decide_eq_true (by assumption);have aA:=kY I G;replace ax:=eq_true ax;replace av:=eq_true av;go_wp2;go_roundg k3;(case measure=>have:=HJ2.out;have:=HJ9.out;have:=HK3.out;omega);case rel=>exact⟨(IntKind.u64.wrap ((IntKind.u64.wrap (ab*10))+(((bt I G)-48)%256))),(wrap64 (G+1)),qr,qr,X,⟨by have:=HJ2.out;have:=HJ9.out;have:=HK3.out;omega⟩,qd⟩
       obtain⟨rfl,rfl,rfl⟩:=sj3 H;clear H;go_wp2;go_ret3;exact⟨by first|rfl|(simp;done)|(simp[*];done)|(simp;exact isEmpty_ne _),qd⟩
end Go.Proofs.B
namespace Go.Proofs.Span
open RowKit PW Ext B
def S(l:List UInt8):ByteArray:=⟨l.toArray⟩
theorem kM(l:List UInt8):(S l).size=l.length:=by simp[S,ByteArray.size]
theorem sP(l:List UInt8):(S l).data.toList=l:=by simp[S]
theorem GA(s:ByteArray):S s.data.toList=s:=by cases s;simp[S]
theorem wu(l:List UInt8)(j:Nat):bt (S l) (j:Int)=((l.getD j 0).toNat:Int):=by
  unfold bt;rw[Int.toNat_natCast]
  split
  · rename_i h
    (have D:j<l.length:=by rwa[kM]at h);simp[S,ByteArray.getElem_eq_getElem_data,List.getD,D]
  · rename_i h
    (have D:l.length≤j:=by rw[kM]at h;omega);simp[List.getD,D]
theorem zB(l:List UInt8)(j:Nat):(S l).extract j (S l).size=S (l.drop j):=by rw[Go.Lib.Pa.extract_from,sP];rfl
theorem EU(l:List UInt8)(j:Nat):(S l).extract 0 j=S (l.take j):=by rw[Go.Lib.Pa.extract_upto,sP];rfl
theorem ug(c:UInt8):isD c=true↔48≤(c.toNat:Int)∧(c.toNat:Int)≤57:=by
  unfold isD;rw[Bool.and_eq_true,decide_eq_true_eq,decide_eq_true_eq];omega
theorem Fq{i:Int}(D:0≤i)(h:i≤9223372036854775806):wrap64 (i+1)=i+1:=by unfold wrap64;omega
def Bb(l:List UInt8):Int×Int×ByteArray:=((qP l).1,(qP l).2.1,S (qP l).2.2)
theorem J2:(⟨#[]⟩:ByteArray)=S []:=rfl
theorem pu(l:List UInt8)(h1:1≤nD l)(h2:nD l≤15):ku.f ((S l).extract 0 (nD l)) 10 64=some (((val (l.take (nD l)):Nat):Int),none):=by
  have hl:=uL l;unfold ku.f;rw[EU,if_pos ⟨rfl,rfl,by rw[kM,List.length_take];omega⟩,sP,Cn _ (xV l) (by intro h;have D:=congrArg List.length h;rw[List.length_take]at D;simp only[List.length_nil]at D;omega) (by rw[List.length_take];omega)]
theorem CZ(l:List UInt8)(h:¬(nD l<1∨15<nD l∨nD l=l.length∨(l.getD 0 0=48∧1<nD l))):
    Bb l=(((val (l.take (nD l)):Nat):Int),(((l.getD (nD l) 0).toNat:Nat):Int),S (l.drop (nD l+1))):=by unfold Bb qP;rw[if_neg h]
theorem y9(l:List UInt8)(h:nD l<1∨15<nD l∨nD l=l.length∨(l.getD 0 0=48∧1<nD l)):Bb l=(0,0,S []):=by unfold Bb qP;rw[if_pos h];rfl
theorem Bz(c:UInt8):((c.toNat:Int)=48)↔c=48:=by
  constructor
  · intro h; exact UInt8.toNat_inj.mp (by have : c.toNat = 48 := by omega
                                          exact this)
  · rintro rfl;rfl
theorem J8(l:List UInt8)(hl:l.length≤140737488351232):∀m j k:Nat,nD l-j=m→j≤nD l→m<k→rZ.l0 k (S l) j=some (Bb l):=by
  have hn:=uL l;intro m
  induction m with
  |zero=>
    intro j k hm hj hk;(obtain rfl:j=nD l:=by omega);(obtain⟨k,rfl⟩:∃m,k=m+1:=⟨k-1,by omega⟩);(have L:wrap64 ((nD l:Int)+1)=((nD l+1:Nat):Int):=by rw[Fq (by omega) (by omega)];omega);have Y:bt (S l) 0=((l.getD 0 0).toNat:Int):=wu l 0;simp only[rZ.l0,wu,kM,Y,L,Bz,J2,Int.toNat_natCast];by_cases ce:nD l=l.length
    · have I:((nD l:Int)<(l.length:Int))=False:=eq_false (by omega)
      rw[y9 l (Or.inr (Or.inr (Or.inl ce)))];have U:((nD l:Int)=(l.length:Int))=True:=eq_true (by omega);simp only[I,U,if_false,if_true,ite_self]
    · have hd:=Cv l (by omega)
      rw[←Bool.not_eq_true,ug]at hd;have I:((nD l:Int)<(l.length:Int))=True:=eq_true (by omega);have G:(0≤(nD l:Int))=True:=eq_true (by omega);have U:((nD l:Int)=(l.length:Int))=False:=eq_false (by omega);have Z:(0<(l.length:Int))=True:=eq_true (by omega);have e5:((nD l:Int)≤(l.length:Int))=True:=eq_true (by omega);have e6:(0≤((nD l+1:Nat):Int))=True:=eq_true (by omega);have X:(((nD l+1:Nat):Int)≤(l.length:Int))=True:=eq_true (by omega)
      have D:(if(nD l:Int)<1 then some ((0:Int),(0:Int),S [])else if(nD l:Int)>15 then some (0,0,S [])else
          if l.getD 0 0=48 then if(nD l:Int)>1 then some (0,0,S [])else((ku.f ((S l).extract 0 (nD l)) 10 64).bind fun b=>some (b.1,(((l.getD (nD l) 0).toNat:Nat):Int),(S l).extract (nD l+1) l.length))
          else((ku.f ((S l).extract 0 (nD l)) 10 64).bind fun b=>some (b.1,(((l.getD (nD l) 0).toNat:Nat):Int),(S l).extract (nD l+1) l.length)))=some (Bb l):=by
        by_cases c1:nD l<1
        · rw[if_pos (by omega),y9 l (Or.inl c1)]
        · rw[if_neg (by omega)]
          by_cases c2:15<nD l
          · rw[if_pos (by omega),y9 l (Or.inr (Or.inl c2))]
          · rw[if_neg (by omega),pu l (by omega) (by omega)]
            (have e8:(S l).extract (nD l+1) l.length=S (l.drop (nD l+1)):=by rw[←zB,kM]);simp only[Option.bind_some,e8];by_cases c3:l.getD 0 0=48
            · rw[if_pos c3]
              by_cases c4:1<nD l
              · rw[if_pos (by omega),y9 l (Or.inr (Or.inr (Or.inr ⟨c3,c4⟩)))]
              · rw[if_neg (by omega),CZ l (by omega)]
            · rw[if_neg c3,CZ l (by rintro(h|h|h|h)<;>first|omega|exact c3 h.1)]
      simp only[I,G,U,Z,e5,e6,X,if_true,if_false]
      split
      · split
        · exact absurd ⟨by assumption,by assumption⟩ hd
        · exact D
      · exact D
  |succ m ih=>
    intro j k hm hj hk;(obtain⟨k,rfl⟩:∃m,k=m+1:=⟨k-1,by omega⟩);have hi:=(ug _).mp (BO l j (by omega));(have L:wrap64 ((j:Int)+1)=((j+1:Nat):Int):=by rw[Fq (by omega) (by omega)];omega);simp only[rZ.l0,wu,kM];rw[if_pos (by omega),if_pos (by omega),if_pos hi.1,if_pos hi.2,L];exact ih (j+1) k (by omega) (by omega) (by omega)
theorem KO(l:List UInt8)(hl:l.length≤140737488351232):rZ.f (l.length+1) (S l)=some (Bb l):=by
  have h:=uL l;exact J8 l hl (nD l) 0 (l.length+1) (by omega) (by omega) (by omega)
theorem EK(l:List UInt8)(hl:l.length≤140737488351232)(w:World):
    Calls Tryz.prog 75 #[.string (S l)] w fun e w'=>e= .returned (.tuple #[.int .u64 (qP l).1, .int .u8 (qP l).2.1, .string (S (qP l).2.2)])∧Below w.heap.size w w':=
  rZ.calls (l.length+1) (S l) _ _ _ w (KO l hl)
theorem EX(a b:Nat)(D:a<18446744073709551616)(G:b<18446744073709551616):tK.f a b=some ((yU a b:Nat):Int):=by
  unfold tK.f wo.f yU;rw[if_pos ⟨by omega,by omega,by omega,by omega⟩];by_cases c:a+b<18446744073709551616
  · rw[if_pos (by omega),if_pos c,Option.bind_some,if_pos rfl,Int.natCast_add]
  · rw[if_neg (by omega),if_neg c,Option.bind_some,if_neg (by decide)]
    exact congrArg some (by omega)
theorem Jj(n u:Nat)(D:n<18446744073709551616)(G:u<18446744073709551616):uy.f n u=some (if n*u<18446744073709551616 then(((n*u:Nat):Int),true)else(0,false)):=by
  unfold uy.f bits_Mul64.f;rw[if_pos ⟨by omega,by omega,by omega,by omega⟩,Option.bind_some,←Int.natCast_mul];generalize n*u=z;by_cases c:z<18446744073709551616
  · rw[if_pos (by omega),if_pos c]
    exact congrArg some (Prod.ext (by show(z:Int)%18446744073709551616=z;omega) rfl)
  · rw[if_neg (by omega),if_neg c]
def big:Nat:=1125899906842624
theorem KD:(1125899906842624:Int)=((big:Nat):Int):=by unfold big;omega
theorem JI:yU big 1=1125899906842625:=by unfold yU big;rw[if_pos (by omega)]
theorem Lj:(1:Int)=((1:Nat):Int):=by omega
theorem KX:big<18446744073709551616:=by unfold big;omega
theorem Kt(t n u:Nat)(ht:t<18446744073709551616)(G:n<18446744073709551616)(D:u<18446744073709551616):vU.f t n u=some ((qR t n u:Nat):Int):=by
  unfold vU.f qR;rw[Jj n u G D,Option.bind_some];by_cases c:n*u<18446744073709551616
  · rw[if_pos c,if_pos c,if_pos rfl,EX t _ ht c,Option.bind_some]
  · rw[if_neg c,if_neg c,if_neg (by decide),KD,Lj,EX _ _ KX (by omega),Option.bind_some,JI,EX t _ ht (by omega),Option.bind_some]
theorem sI(t n u:Nat)(ht:t<18446744073709551616)(D:n<18446744073709551616)(G:u<18446744073709551616)(w:World):
    Calls Tryz.prog 76 #[.int .u64 t, .int .u64 n, .int .u64 u] w fun e w'=>e= .returned (.int .u64 (qR t n u:Nat))∧qm w w':=
  vU.calls t n u _ w (Kt t n u ht D G)
end Go.Proofs.Span
