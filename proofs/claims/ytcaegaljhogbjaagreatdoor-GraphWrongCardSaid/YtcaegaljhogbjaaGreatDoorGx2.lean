/- What Go functions compute, as plain Lean functions, and. -/
import Derived.Test.YtcaegaljhogbjaaGreatDoorProg
import Derived.Test.YtcaegaljhogbjaaGreatDoorOn2
set_option linter.unusedSimpArgs false
set_option linter.unusedVariables false
set_option maxHeartbeats 8000000
set_option maxRecDepth 100000
namespace Go.Proofs.G
open RowKit PW PL PM
attribute [local go_sem] qI qH qV qW qz qA qM qL
def Bl:Option Int→Value
  |none=> .nilIface
  |some c=> .iface 0 (.int .i64 c)
theorem iO:Bl none= .nilIface:=rfl
theorem iN(c:Int):Bl (some c)= .iface 0 (.int .i64 c):=rfl
theorem uG:(Tryz.prog.info? 118).map (fun i=>(i.zero,i.size,i.bytes))=some (some (.agg #[(.int .i64 0),(.int .i64 0)]),2,16):=by kernel_rfl
structure kD where
  f0:Int
  f1:Int
def Mx:kD:=⟨(0:Int),(0:Int)⟩
def tq:Kd kD:=Kd.iso (Kd.pair (Kd.int .i64) (Kd.int .i64)) (fun x:kD=>(x.f0,x.f1))
theorem Gc{w:World}{x:kD}{cs:List Value}(h:tq.K w x cs):cs=[.int .i64 x.f0, .int .i64 x.f1]:=by
  obtain⟨_,_,rfl,rfl,rfl⟩:=h;exact rfl
theorem tF(w:World)(base:Nat)(ok:Nat→Prop)(x:kD):tq.M w base ok x [.int .i64 x.f0, .int .i64 x.f1]:=⟨[.int .i64 x.f0],[.int .i64 x.f1],rfl,rfl,rfl⟩
def wI(xs:List kD)(i:Int):kD:=xs.getD i.toNat Mx
theorem wH{w:World}{A:Option Addr}{n:Nat}{xs:List kD}(h:Kd.C tq w A n xs)(i:Int)(I:0≤i)(h1:i<n):∃ad,A=some ad∧w.cell? (ad.add (i.toNat*2))=some (.int .i64 (wI xs i).f0)∧w.cell? ⟨(ad.add (i.toNat*2)).block,(ad.add (i.toNat*2)).off+1,none⟩=some (.int .i64 (wI xs i).f1):=by
  obtain⟨ad,c,e,_,L,D⟩:=Kd.FD h Mx i I h1;have G:∀j u,c[j]?=some u→w.cell? (ad.add (i.toNat*2+j))=some u:=D;obtain rfl:=Gc L;exact⟨ad,e,G 0 _ rfl,by rw[←sU _ _ 1 (by omega)];exact G 1 _ rfl⟩
def qp.f(G:Int):Option (ByteArray):=(some (([(⟨#[]⟩:ByteArray),(⟨#[]⟩:ByteArray),(⟨#[]⟩:ByteArray),(⟨#[43]⟩:ByteArray),(⟨#[45]⟩:ByteArray),(⟨#[42]⟩:ByteArray),(⟨#[60]⟩:ByteArray),(⟨#[60,61]⟩:ByteArray),(⟨#[62]⟩:ByteArray),(⟨#[62,61]⟩:ByteArray),(⟨#[61,61]⟩:ByteArray),(⟨#[33,61]⟩:ByteArray),(⟨#[38]⟩:ByteArray),(⟨#[124]⟩:ByteArray),(⟨#[33]⟩:ByteArray),(⟨#[40]⟩:ByteArray),(⟨#[41]⟩:ByteArray),(⟨#[91]⟩:ByteArray),(⟨#[93]⟩:ByteArray)]:List ByteArray):List ByteArray)).bind fun D=>(if 0≤G then(if G<(D.length:Int)then(some (Kz ByteArray.empty D G))else(none))else(none))
theorem qp.calls(Z:Int)(r:ByteArray)(w:World)(h:qp.f Z=some r):
  Calls Tryz.prog 86 #[.int .i64 Z] w fun e w'=>e= .returned (.string r)∧Below w.heap.size w w':=by
 have HB:=mk0 (Below.refl w.heap.size w);unfold qp.f at h;have H:=h;clear h;replace H:=bsv H;obtain⟨aa,U,H⟩:=H;replace H:=ic H;rcases H with⟨c2,H⟩|⟨c2,H⟩
 ·have af:=decide_eq_true c2;clear c2;replace H:=idp H;obtain⟨_,H⟩:=H;obtain rfl:=Option.some.inj H;go_enter Tryz.func86,Tryz.ntmps86;go_wp2_with(((with_reducible refine vJ (N:=3) rfl ?_);refine Kd.zW Kd.string _ 9 ?hg (N:=3) ?hd (xs:=([(⟨#[]⟩:ByteArray),(⟨#[]⟩:ByteArray),(⟨#[]⟩:ByteArray),(⟨#[43]⟩:ByteArray),(⟨#[45]⟩:ByteArray),(⟨#[42]⟩:ByteArray),(⟨#[60]⟩:ByteArray),(⟨#[60,61]⟩:ByteArray),(⟨#[62]⟩:ByteArray),(⟨#[62,61]⟩:ByteArray),(⟨#[61,61]⟩:ByteArray),(⟨#[33,61]⟩:ByteArray),(⟨#[38]⟩:ByteArray),(⟨#[124]⟩:ByteArray),(⟨#[33]⟩:ByteArray),(⟨#[40]⟩:ByteArray),(⟨#[41]⟩:ByteArray),(⟨#[91]⟩:ByteArray),(⟨#[93]⟩:ByteArray)]:List ByteArray)) (inner:=[.string (⟨#[]⟩:ByteArray), .string (⟨#[]⟩:ByteArray), .string (⟨#[]⟩:ByteArray), .string (⟨#[43]⟩:ByteArray), .string (⟨#[45]⟩:ByteArray), .string (⟨#[42]⟩:ByteArray), .string (⟨#[60]⟩:ByteArray), .string (⟨#[60,61]⟩:ByteArray), .string (⟨#[62]⟩:ByteArray), .string (⟨#[62,61]⟩:ByteArray), .string (⟨#[61,61]⟩:ByteArray), .string (⟨#[33,61]⟩:ByteArray), .string (⟨#[38]⟩:ByteArray), .string (⟨#[124]⟩:ByteArray), .string (⟨#[33]⟩:ByteArray), .string (⟨#[40]⟩:ByteArray), .string (⟨#[41]⟩:ByteArray), .string (⟨#[91]⟩:ByteArray), .string (⟨#[93]⟩:ByteArray)]) (ok:=fun _=>True) (okp:=fun _=>True) ?hr ?hp (fun _ hk=>hk) trivial (Below.refl _ _) (Nat.le_refl _) (by simp) ?_;(case hd=>rfl);(case hg=>rfl);(case hr=>first|(go_simp;done)|(go_simp;rfl));(case hp=>exact(qC.one (show Kd.M Kd.string _ _ _ (⟨#[]⟩:ByteArray) [.string (⟨#[]⟩:ByteArray)]from rfl) (qC.one (show Kd.M Kd.string _ _ _ (⟨#[]⟩:ByteArray) [.string (⟨#[]⟩:ByteArray)]from rfl) (qC.one (show Kd.M Kd.string _ _ _ (⟨#[]⟩:ByteArray) [.string (⟨#[]⟩:ByteArray)]from rfl) (qC.one (show Kd.M Kd.string _ _ _ (⟨#[43]⟩:ByteArray) [.string (⟨#[43]⟩:ByteArray)]from rfl) (qC.one (show Kd.M Kd.string _ _ _ (⟨#[45]⟩:ByteArray) [.string (⟨#[45]⟩:ByteArray)]from rfl) (qC.one (show Kd.M Kd.string _ _ _ (⟨#[42]⟩:ByteArray) [.string (⟨#[42]⟩:ByteArray)]from rfl) (qC.one (show Kd.M Kd.string _ _ _ (⟨#[60]⟩:ByteArray) [.string (⟨#[60]⟩:ByteArray)]from rfl) (qC.one (show Kd.M Kd.string _ _ _ (⟨#[60,61]⟩:ByteArray) [.string (⟨#[60,61]⟩:ByteArray)]from rfl) (qC.one (show Kd.M Kd.string _ _ _ (⟨#[62]⟩:ByteArray) [.string (⟨#[62]⟩:ByteArray)]from rfl) (qC.one (show Kd.M Kd.string _ _ _ (⟨#[62,61]⟩:ByteArray) [.string (⟨#[62,61]⟩:ByteArray)]from rfl) (qC.one (show Kd.M Kd.string _ _ _ (⟨#[61,61]⟩:ByteArray) [.string (⟨#[61,61]⟩:ByteArray)]from rfl) (qC.one (show Kd.M Kd.string _ _ _ (⟨#[33,61]⟩:ByteArray) [.string (⟨#[33,61]⟩:ByteArray)]from rfl) (qC.one (show Kd.M Kd.string _ _ _ (⟨#[38]⟩:ByteArray) [.string (⟨#[38]⟩:ByteArray)]from rfl) (qC.one (show Kd.M Kd.string _ _ _ (⟨#[124]⟩:ByteArray) [.string (⟨#[124]⟩:ByteArray)]from rfl) (qC.one (show Kd.M Kd.string _ _ _ (⟨#[33]⟩:ByteArray) [.string (⟨#[33]⟩:ByteArray)]from rfl) (qC.one (show Kd.M Kd.string _ _ _ (⟨#[40]⟩:ByteArray) [.string (⟨#[40]⟩:ByteArray)]from rfl) (qC.one (show Kd.M Kd.string _ _ _ (⟨#[41]⟩:ByteArray) [.string (⟨#[41]⟩:ByteArray)]from rfl) (qC.one (show Kd.M Kd.string _ _ _ (⟨#[91]⟩:ByteArray) [.string (⟨#[91]⟩:ByteArray)]from rfl) (qC.one (show Kd.M Kd.string _ _ _ (⟨#[93]⟩:ByteArray) [.string (⟨#[93]⟩:ByteArray)]from rfl) (qC.none _ _)))))))))))))))))))));intro ag w4 G hb ae X;clear ae X;(first|rw[←U.out]at G|(simp only[Int.reduceToNat]at G;rw[←U.out]at G));have I:=rlh G HB;replace HB:=bsh HB hb;clear hb G;obtain⟨_,_,ab⟩:=Kd.qw I.out;subst ab;have L:0≤(Z:Int):=of_decide_eq_true (by assumption);have D:Z<(aa.length:Int):=of_decide_eq_true (by assumption);obtain⟨_,Y,_⟩:=Kd.F5 (Kd.iY I.out).2.2 Z L D;cases Y;replace L:=eq_true L;replace D:=eq_true D));go_ret;exact⟨qe,bok HB.out⟩
 exact absurd H (by simp)
mutual
def eG.l0:Nat→ByteArray→List (kD)→Int→Option ((List (kD))×Int)
 |0,_,_,_=>none
 |k+1,x0,x4,x5=>if x5<(x0.size:Int)then(if 0≤x5 then(if(bt x0 x5)=32 then(eG.l0 k x0 x4 (wrap64 (x5+1)))else(if(bt x0 x5)≥97 then(eG.j1 k x0 x4 x5 (bt x0 x5) (decide ((bt x0 x5)≤122)))else(eG.j1 k x0 x4 x5 (bt x0 x5) false)))else(none))else(some (x4,0))
def eG.j1:Nat→ByteArray→List (kD)→Int→Int→Bool→Option ((List (kD))×Int)
 |0,_,_,_,_,_=>none
 |k+1,x0,x4,x5,x6,x31=>if x31=true then(if x4.length<8796093022208 then(eG.l0 k x0 (x4++[(⟨2,(x6-97)%256⟩:kD)]) (wrap64 (x5+1)))else(none))else(if x6≥48 then(eG.j2 k x0 x4 x5 x6 (decide (x6≤57)))else(eG.j2 k x0 x4 x5 x6 false))
def eG.j2:Nat→ByteArray→List (kD)→Int→Int→Bool→Option ((List (kD))×Int)
 |0,_,_,_,_,_=>none
 |k+1,x0,x4,x5,x6,x46=>if x46=true then(eG.l1 k x0 x4 x5 x6 x5 0)else(eG.l2 k x0 x4 x5 0 3)
def eG.j4:Nat→ByteArray→List (kD)→Int→Int→Int→Int→Option ((List (kD))×Int)
 |0,_,_,_,_,_,_=>none
 |k+1,x0,x4,x5,x6,x7,x8=>if x6=48 then(eG.j5 k x0 x4 x7 x8 (decide (x7>(wrap64 (x5+1)))))else(eG.j5 k x0 x4 x7 x8 false)
def eG.j5:Nat→ByteArray→List (kD)→Int→Int→Bool→Option ((List (kD))×Int)
 |0,_,_,_,_,_=>none
 |k+1,x0,x4,x7,x8,x82=>if x82=true then(some (([]:List (kD)),2))else(if x8>2147483647 then(some (([]:List (kD)),3))else(if x4.length<8796093022208 then(eG.l0 k x0 (x4++[(⟨1,x8⟩:kD)]) x7)else(none)))
def eG.l1:Nat→ByteArray→List (kD)→Int→Int→Int→Int→Option ((List (kD))×Int)
 |0,_,_,_,_,_,_=>none
 |k+1,x0,x4,x5,x6,x7,x8=>if x7<(x0.size:Int)then(if 0≤x7 then(if(bt x0 x7)≥48 then(if(bt x0 x7)≤57 then(eG.l1 k x0 x4 x5 x6 (wrap64 (x7+1)) (mn (wrap64 ((wrap64 (10*x8))+(((bt x0 x7)-48)%256))) 2147483648))else(eG.j4 k x0 x4 x5 x6 x7 x8))else(eG.j4 k x0 x4 x5 x6 x7 x8))else(none))else(eG.j4 k x0 x4 x5 x6 x7 x8)
def eG.l2:Nat→ByteArray→List (kD)→Int→Int→Int→Option ((List (kD))×Int)
 |0,_,_,_,_,_=>none
 |k+1,x0,x4,x5,x9,x10=>if x10≤18 then((qp.f x10).bind fun D=>(if(wrap64 ((x0.size:Int)-x5))≥(D.size:Int)then(if 0≤x5 then(if x5≤(wrap64 (x5+(D.size:Int)))then(if(wrap64 (x5+(D.size:Int)))≤(x0.size:Int)then(if(x0.extract (x5:Int).toNat ((wrap64 (x5+(D.size:Int))):Int).toNat).toList=D.toList then(if x9=0 then(eG.l2 k x0 x4 x5 x10 (wrap64 (x10+1)))else((qp.f x9).bind fun I=>(if(D.size:Int)>(I.size:Int)then(eG.l2 k x0 x4 x5 x10 (wrap64 (x10+1)))else(eG.l2 k x0 x4 x5 x9 (wrap64 (x10+1))))))else(eG.l2 k x0 x4 x5 x9 (wrap64 (x10+1))))else(none))else(none))else(none))else(eG.l2 k x0 x4 x5 x9 (wrap64 (x10+1)))))else(if x9=0 then(some (([]:List (kD)),2))else(if x4.length<8796093022208 then((qp.f x9).bind fun G=>(eG.l0 k x0 (x4++[(⟨x9,0⟩:kD)]) (wrap64 (x5+(G.size:Int)))))else(none)))
end
def eG.f(k:Nat)(D:ByteArray):Option ((List (kD))×Int):=if(D.size:Int)>60 then(some (([]:List (kD)),15))else(eG.l0 k D ([]:List (kD)) 0)
theorem eG.calls(k:Nat)(X:ByteArray)(r1:List (kD))(r2:Int)(w:World)(h:eG.f k X=some (r1,r2)):
  Calls Tryz.prog 64 #[.string X] w fun e w'=>∃bp:Value,e= .returned (.tuple #[bp, .int .i64 r2])∧Kd.R tq 118 w' w.heap.size (fun _=>True) bp r1∧Below w.heap.size w w':=by
 have bz:=Tryz.underlying118;have HB:=mk0 (Below.refl w.heap.size w);unfold eG.f at h;have H:=h;clear h;replace H:=ic H;rcases H with⟨c2,H⟩|⟨c2,H⟩
 ·have bl:decide (60<(X.size:Int))=true:=decide_eq_true c2;have bv:decide (60<X.size)=true:=decide_eq_true (by omega);clear c2;obtain⟨rfl,rfl⟩:=sj2 H;clear H;go_enter Tryz.func64,Tryz.ntmps64;go_wp2;go_ret2;exact⟨_,qf,by first|exact Kd.sO _ _ _ _ _|exact Kd.xq _ _ _ _ _,by exact bok HB.out⟩
 have bl:decide (60<(X.size:Int))=false:=decide_eq_false c2;have bv:decide (60<X.size)=false:=decide_eq_false (by omega);clear c2;have Y:=mk0 H;clear H;go_enter Tryz.func64,Tryz.ntmps64;go_wp2;go_loopg [4,5] k (fun kq v4 v5 w'=>∃(I:List (kD)) (G:Int),v5= .int .i64 G∧eD (eG.l0 kq X I G=some (r1,r2))∧eD (kq≤k)∧eD (Kd.R tq 118 w' w.heap.size (fun _=>True) v4 I)∧eD (Below w.heap.size w w'));case atStart=>exact⟨(([]:List (kD))),(0),qr,Y,⟨Nat.le_refl _⟩,⟨by first|exact Kd.sO _ _ _ _ _|exact Kd.xq _ _ _ _ _⟩,hba HB⟩
 case round=>
  clear Y;obtain⟨I,G,rfl,HA,HK1,D,HB⟩:=hrel;cases gk with
  |zero=>exact absurd HA.out (by simp[eG.l0])
  |succ k1=>
   have H:=HA.out;clear HA;simp only[eG.l0]at H;replace H:=ic H;rcases H with⟨c3,H⟩|⟨c3,H⟩
   ·have bh:=decide_eq_true c3;clear c3;by_cases c4:0≤G
    ·rw[if_pos c4]at H;have bL:decide (0≤G)=true:=decide_eq_true c4;clear c4;replace H:=ic H;rcases H with⟨c6,H⟩|⟨c6,H⟩
     ·have bf:=beq_iff_eq.mpr c6;have bs:=bne_eq_false_iff_eq.mpr c6;clear c6;have Y:=mk0 H;clear H;have p5:0≤(G:Int):=of_decide_eq_true (by assumption);have q5:G<(X.size:Int):=of_decide_eq_true (by assumption);have bE:=kY X G;replace p5:=eq_true p5;replace q5:=eq_true q5;go_wp2;go_roundg k1;(case measure=>have:=HK1.out;omega);case rel=>exact⟨(I),(wrap64 (G+1)),qr,Y,qk,rka D,hba HB⟩
     have bf:=beq_eq_false_iff_ne.mpr c6;have bs:=bne_iff_ne.mpr c6;have aT:=mk0 H;clear H;have p5:0≤(G:Int):=of_decide_eq_true (by assumption);have q5:G<(X.size:Int):=of_decide_eq_true (by assumption);have bE:=kY X G;replace p5:=eq_true p5;replace q5:=eq_true q5;(go_upto_region 9 with(fail));go_cut [31] (fun bx wc=>∃(kq:Nat) (al:Bool),bx= .bool al∧eD (eG.j1 kq X I G (bt X G) al=some (r1,r2))∧eD (kq≤k1)∧eD (Kd.R tq 118 wc w.heap.size (fun _=>True) u4 I)∧eD (Below w.heap.size w wc))
     case first=>
      have H:=aT.out;clear aT;replace H:=ich H;rcases H with⟨ap,H⟩|⟨ap,H⟩
      ·(first|rw[ap]|(simp only[kZ,qY];rw[ap])|skip);have Y:=mk0 H;clear H;go_wp2;go_meet;case rel=>exact⟨_,(decide ((bt X G)≤122)),qr,Y,qkl,rka D,hba HB⟩
      (first|rw[ap]|(simp only[kZ,qY];rw[ap])|skip);have Y:=mk0 H;clear H;go_wp2;go_meet;case rel=>exact⟨_,(false),qr,Y,qkl,rka D,hba HB⟩
     case rest=>
      clear aT;obtain⟨kq,al,rfl,HA,HJ6,D,HB⟩:=hcut;cases kq with
      |zero=>exact absurd HA.out (by simp[eG.j1])
      |succ kj6=>
       have H:=HA.out;clear HA;simp only[eG.j1]at H;by_cases c9:al=true
       ·subst c9;(have H1:(if I.length<8796093022208 then(eG.l0 kj6 X (I++[(⟨2,((bt X G)-97)%256⟩:kD)]) (wrap64 (G+1)))else(none))=some (r1,r2):=by rw[if_pos rfl]at H;exact H);clear H;have H:=H1;clear H1;replace H:=ilp H;obtain⟨a4,H⟩:=H;obtain⟨bq,aD⟩:=nv (I++[(⟨2,((bt X G)-97)%256⟩:kD)]:List (kD));rw[←aD.out]at H;have Y:=mk0 H;clear H;go_wp2_with(((with_reducible refine kW (b:= .append) (xs:=#[.tmp 32, .tmp 37]) rfl ?_);(try(refine qg (by rfl) ?_;dsimp only));at_builtin;refine Kd.rF tq (w0:=w) w.heap.size rfl (.tmp 32) (.tmp 37) 71 118 (.agg #[(.int .i64 0),(.int .i64 0)]) 16 rfl Tryz.underlying71 uG rfl (by decide) (by omega) u4 I (⟨2,((bt X G)-97)%256⟩:kD) [.int .i64 2, .int .i64 (((bt X G)-97)%256)] (fun _=>True) (fun _=>False) rfl rfl ?aP (fun _ hk=>hk.elim) ?aF ?aO ?aB ?aS ?aL ?_;(case aP=>exact tF _ _ _ (⟨2,((bt X G)-97)%256⟩:kD));(case aB=>exact(by exact bok HB.out));(case aF=>exact(fun _ _=>trivial));(case aO=>exact(by exact rok D.out));(case aS=>exact(kN (by exact bok HB.out)));(case aL=>have:=a4.out;omega);intro bN bS ho hb hg aE;rw[←aD.out]at ho;replace HB:=mk0 hb;have aX:=mk0 ho;clear D;clear ho hb hg aE));go_roundg kj6;(case measure=>have:=HK1.out;have:=HJ6.out;omega);case rel=>exact⟨(bq),(wrap64 (G+1)),qr,Y,⟨by have:=HK1.out;have:=HJ6.out;omega⟩,rka aX,hba HB⟩
       replace c9:=Bool.eq_false_iff.mpr c9;subst c9;(have H1:(if(bt X G)≥48 then(eG.j2 kj6 X I G (bt X G) (decide ((bt X G)≤57)))else(eG.j2 kj6 X I G (bt X G) false))=some (r1,r2):=by rw[if_neg (show ¬(false=true) by decide)]at H;exact H);clear H;have H:=H1;clear H1;have aM:=mk0 H;clear H;(go_upto_region 12 with(fail));go_cut [46] (fun bG wc=>∃(kq:Nat) (ag:Bool),bG= .bool ag∧eD (eG.j2 kq X I G (bt X G) ag=some (r1,r2))∧eD (kq≤kj6)∧eD (Kd.R tq 118 wc w.heap.size (fun _=>True) u4 I)∧eD (Below w.heap.size w wc))
       case first=>
        have H:=aM.out;clear aM;replace H:=ich H;rcases H with⟨ai,H⟩|⟨ai,H⟩
        ·(first|rw[ai]|(simp only[kZ,qY];rw[ai])|skip);have Y:=mk0 H;clear H;go_wp2;go_meet;case rel=>exact⟨_,(decide ((bt X G)≤57)),qr,Y,⟨by have:=HK1.out;have:=HJ6.out;first|omega|exact Nat.le_refl _⟩,rka D,hba HB⟩
        (first|rw[ai]|(simp only[kZ,qY];rw[ai])|skip);have Y:=mk0 H;clear H;go_wp2;go_meet;case rel=>exact⟨_,(false),qr,Y,⟨by have:=HK1.out;have:=HJ6.out;first|omega|exact Nat.le_refl _⟩,rka D,hba HB⟩
       case rest=>
        clear aM;obtain⟨kq,ag,rfl,HA,HJ11,D,HB⟩:=hcut;cases kq with
        |zero=>exact absurd HA.out (by simp[eG.j2])
        |succ kj11=>
         have H:=HA.out;clear HA;simp only[eG.j2]at H;by_cases aN:ag=true
         ·subst aN;(have H1:(eG.l1 kj11 X I G (bt X G) G 0)=some (r1,r2):=by rw[if_pos rfl]at H;exact H);clear H;have H:=H1;clear H1;have aC:=mk0 H;clear H;(go_upto_block 2 with(fail));go_cut [7,8] (fun v7 v8 wc=>∃(kq:Nat) (af:Int) (aa:Int),v7= .int .i64 af∧v8= .int .i64 aa∧eD (eG.j4 kq X I G (bt X G) af aa=some (r1,r2))∧eD (kq≤kj11)∧eD (Kd.R tq 118 wc w.heap.size (fun _=>True) u4 I)∧eD (Below w.heap.size w wc))
          case first=>
           have H:=aC.out;clear aC;have Y:=mk0 H;clear H;go_wp2;go_loopg [7,8] kj11 (fun kq v7 v8 w'=>∃(L:Int) (ae:Int),v7= .int .i64 L∧v8= .int .i64 ae∧eD (eG.l1 kq X I G (bt X G) L ae=some (r1,r2))∧eD (kq≤kj11)∧eD (Kd.R tq 118 w' w.heap.size (fun _=>True) u4 I)∧eD (Below w.heap.size w w'));case atStart=>exact⟨(G),(0),qr,qr,Y,⟨Nat.le_refl _⟩,rka D,hba HB⟩
           case round=>
            clear Y;obtain⟨L,ae,rfl,rfl,HA,HK4,D,HB⟩:=hrel;cases gk with
            |zero=>exact absurd HA.out (by simp[eG.l1])
            |succ k4=>
             have H:=HA.out;clear HA;simp only[eG.l1]at H;replace H:=icd H;rcases H with⟨aj,H⟩|⟨aj,H⟩
             ·(first|rw[aj]|(simp only[kZ,qY];rw[aj])|skip);replace H:=idp H;obtain⟨_,H⟩:=H;replace H:=ich H;rcases H with⟨a9,H⟩|⟨a9,H⟩
              ·replace H:=icd H;rcases H with⟨aZ,H⟩|⟨aZ,H⟩
               ·(obtain⟨aJ,am⟩:∃j_:Int,(mn (wrap64 ((wrap64 (10*ae))+(((bt X L)-48)%256))) 2147483648)=j_:=⟨_,rfl⟩);(replace H:(eG.l1 k4 X I G (bt X G) (wrap64 (L+1)) aJ)=some (r1,r2):=by first|(rw[am]at H;exact H)|(simp only[am]at H⊢;exact H));have bw:(if 2147483648<(wrap64 ((wrap64 (10*ae))+(((bt X L)-48)%256)))then 2147483648 else(wrap64 ((wrap64 (10*ae))+(((bt X L)-48)%256))))=aJ:=am;have Y:=mk0 H;clear H;have ao:0≤(L:Int):=of_decide_eq_true (by assumption);have aq:L<(X.size:Int):=of_decide_eq_true (by assumption);have aQ:=kY X L;replace ao:=eq_true ao;replace aq:=eq_true aq;have aI:0≤(L:Int):=of_decide_eq_true (by assumption);have aG:L<(X.size:Int):=of_decide_eq_true (by assumption);have bi:=kY X L;replace aI:=eq_true aI;replace aG:=eq_true aG;have bn:0≤(L:Int):=of_decide_eq_true (by assumption);have br:L<(X.size:Int):=of_decide_eq_true (by assumption);have bP:=kY X L;replace bn:=eq_true bn;replace br:=eq_true br;go_wp2;go_roundg k4;(case measure=>have:=HK1.out;have:=HJ6.out;have:=HJ11.out;have:=HK4.out;omega);case rel=>exact⟨(wrap64 (L+1)),(aJ),qr,(by first|rfl|(simp;done)|(simp only[←am]<;>(first|rfl|simp))|(simp[*];done)),Y,⟨by have:=HK1.out;have:=HJ6.out;have:=HJ11.out;have:=HK4.out;omega⟩,rka D,hba HB⟩
               have Y:=mk0 H;clear H;have ao:0≤(L:Int):=of_decide_eq_true (by assumption);have aq:L<(X.size:Int):=of_decide_eq_true (by assumption);have aQ:=kY X L;replace ao:=eq_true ao;replace aq:=eq_true aq;have aI:0≤(L:Int):=of_decide_eq_true (by assumption);have aG:L<(X.size:Int):=of_decide_eq_true (by assumption);have bi:=kY X L;replace aI:=eq_true aI;replace aG:=eq_true aG;go_wp2;go_meet;case rel=>exact⟨_,(L),(ae),qr,qr,Y,⟨by have:=HK1.out;have:=HJ6.out;have:=HJ11.out;have:=HK4.out;first|omega|exact Nat.le_refl _⟩,rka D,hba HB⟩
              have Y:=mk0 H;clear H;have ao:0≤(L:Int):=of_decide_eq_true (by assumption);have aq:L<(X.size:Int):=of_decide_eq_true (by assumption);have aQ:=kY X L;replace ao:=eq_true ao;replace aq:=eq_true aq;go_wp2;go_meet;case rel=>exact⟨_,(L),(ae),qr,qr,Y,⟨by have:=HK1.out;have:=HJ6.out;have:=HJ11.out;have:=HK4.out;first|omega|exact Nat.le_refl _⟩,rka D,hba HB⟩
             (first|rw[aj]|(simp only[kZ,qY];rw[aj])|skip);have Y:=mk0 H;clear H;go_wp2;go_meet;case rel=>exact⟨_,(L),(ae),qr,qr,Y,⟨by have:=HK1.out;have:=HJ6.out;have:=HJ11.out;have:=HK4.out;first|omega|exact Nat.le_refl _⟩,rka D,hba HB⟩
          case rest=>
           clear aC;obtain⟨kq,af,aa,rfl,rfl,HA,HJ14,D,HB⟩:=hcut;cases kq with
           |zero=>exact absurd HA.out (by simp[eG.j4])
           |succ kj14=>
            have H:=HA.out;clear HA;simp only[eG.j4]at H;have aK:=mk0 H;clear H;(go_upto_region 17 with(fail));go_cut [82] (fun bJ wc=>∃(kq:Nat) (an:Bool),bJ= .bool an∧eD (eG.j5 kq X I af aa an=some (r1,r2))∧eD (kq≤kj14)∧eD (Kd.R tq 118 wc w.heap.size (fun _=>True) u4 I)∧eD (Below w.heap.size w wc))
            case first=>
             have H:=aK.out;clear aK;replace H:=ic H;rcases H with⟨ax,H⟩|⟨ax,H⟩
             ·have ah:=beq_iff_eq.mpr ax;have aW:=bne_eq_false_iff_eq.mpr ax;clear ax;(first|rw[ah]|(simp only[kZ,qY];rw[ah])|skip);have Y:=mk0 H;clear H;go_wp2;go_meet;case rel=>exact⟨_,(decide (af>(wrap64 (G+1)))),qr,Y,⟨by have:=HK1.out;have:=HJ6.out;have:=HJ11.out;have:=HJ14.out;first|omega|exact Nat.le_refl _⟩,rka D,hba HB⟩
             have ah:=beq_eq_false_iff_ne.mpr ax;have aW:=bne_iff_ne.mpr ax;(first|rw[ah]|(simp only[kZ,qY];rw[ah])|skip);have Y:=mk0 H;clear H;go_wp2;go_meet;case rel=>exact⟨_,(false),qr,Y,⟨by have:=HK1.out;have:=HJ6.out;have:=HJ11.out;have:=HJ14.out;first|omega|exact Nat.le_refl _⟩,rka D,hba HB⟩
            case rest=>
             clear aK;obtain⟨kq,an,rfl,HA,HJ23,D,HB⟩:=hcut;cases kq with
             |zero=>exact absurd HA.out (by simp[eG.j5])
             |succ kj23=>
              have H:=HA.out;clear HA;simp only[eG.j5]at H;replace H:=icb H;rcases H with⟨rfl,H⟩|⟨rfl,H⟩
              ·obtain⟨rfl,rfl⟩:=sj2 H;clear H;go_wp2;go_ret2;exact⟨_,qf,by first|exact Kd.sO _ _ _ _ _|exact Kd.xq _ _ _ _ _,by exact bok HB.out⟩
              replace H:=icg H;rcases H with⟨aU,H⟩|⟨aU,H⟩
              ·obtain⟨rfl,rfl⟩:=sj2 H;clear H;go_wp2;go_ret2;exact⟨_,qf,by first|exact Kd.sO _ _ _ _ _|exact Kd.xq _ _ _ _ _,by exact bok HB.out⟩
              replace H:=ilp H;obtain⟨a3,H⟩:=H;obtain⟨bu,az⟩:=nv (I++[(⟨1,aa⟩:kD)]:List (kD));rw[←az.out]at H;have Y:=mk0 H;clear H;go_wp2_with(((with_reducible refine kW (b:= .append) (xs:=#[.tmp 85, .tmp 88]) rfl ?_);(try(refine qg (by rfl) ?_;dsimp only));at_builtin;refine Kd.rF tq (w0:=w) w.heap.size rfl (.tmp 85) (.tmp 88) 71 118 (.agg #[(.int .i64 0),(.int .i64 0)]) 16 rfl Tryz.underlying71 uG rfl (by decide) (by omega) u4 I (⟨1,aa⟩:kD) [.int .i64 1, .int .i64 aa] (fun _=>True) (fun _=>False) rfl rfl ?aP (fun _ hk=>hk.elim) ?aF ?aO ?aB ?aS ?aL ?_;(case aP=>exact tF _ _ _ (⟨1,aa⟩:kD));(case aB=>exact(by exact bok HB.out));(case aF=>exact(fun _ _=>trivial));(case aO=>exact(by exact rok D.out));(case aS=>exact(kN (by exact bok HB.out)));(case aL=>have:=a3.out;omega);intro bO b0 ho hb hg aE;rw[←az.out]at ho;replace HB:=mk0 hb;have aV:=mk0 ho;clear D;clear ho hb hg aE));go_roundg kj23;(case measure=>have:=HK1.out;have:=HJ6.out;have:=HJ11.out;have:=HJ14.out;have:=HJ23.out;omega);case rel=>exact⟨(bu),(af),qr,Y,⟨by have:=HK1.out;have:=HJ6.out;have:=HJ11.out;have:=HJ14.out;have:=HJ23.out;omega⟩,rka aV,hba HB⟩
         replace aN:=Bool.eq_false_iff.mpr aN;subst aN;(have H1:(eG.l2 kj11 X I G 0 3)=some (r1,r2):=by rw[if_neg (show ¬(false=true) by decide)]at H;exact H);clear H;have H:=H1;clear H1;have Y:=mk0 H;clear H;go_wp2;go_loopg [9,10] kj11 (fun kq v9 bK w'=>∃(Z:Int) (U:Int),v9= .int .i64 Z∧bK= .int .i64 U∧eD (eG.l2 kq X I G Z U=some (r1,r2))∧eD (kq≤kj11)∧eD (Kd.R tq 118 w' w.heap.size (fun _=>True) u4 I)∧eD (Below w.heap.size w w'));case atStart=>exact⟨(0),(3),qr,qr,Y,⟨Nat.le_refl _⟩,rka D,hba HB⟩
         case round=>
          clear Y;obtain⟨Z,U,rfl,rfl,HA,HK4,D,HB⟩:=hrel;cases gk with
          |zero=>exact absurd HA.out (by simp[eG.l2])
          |succ k4=>
           have H:=HA.out;clear HA;simp only[eG.l2]at H;replace H:=icd H;rcases H with⟨a2,H⟩|⟨a2,H⟩
           ·replace H:=bsm H;obtain⟨ab,aA,H⟩:=H;replace H:=ich H;rcases H with⟨a6,H⟩|⟨a6,H⟩
            ·replace H:=icp H;obtain⟨bd,H⟩:=H;have bF:=eq_true bd;have bA:=decide_eq_true bd;clear bd;replace H:=icp H;obtain⟨bj,H⟩:=H;have bC:=eq_true bj;have bB:=decide_eq_true bj;replace H:=icp H;obtain⟨bk,H⟩:=H;have bD:=eq_true bk;have bI:=decide_eq_true bk;replace H:=ic H;rcases H with⟨aw,H⟩|⟨aw,H⟩
             ·have a8:=beq_iff_eq.mpr aw;have a1:=bne_eq_false_iff_eq.mpr aw;clear aw;replace H:=ic H;rcases H with⟨ay,H⟩|⟨ay,H⟩
              ·have ba:=beq_iff_eq.mpr ay;have be:=bne_eq_false_iff_eq.mpr ay;clear ay;have Y:=mk0 H;clear H;go_wp2_with((refine gcl 86 (some 96) ?_;refine gca Tryz.func86 (qp.calls U ab _ aA.out) ?_;rintro e bY⟨rfl,hb⟩;refine⟨_,rfl,?_⟩;replace D:=rkh D hb;replace HB:=bsh HB hb;(try clear hb)));go_roundg k4;(case measure=>have:=HK1.out;have:=HJ6.out;have:=HJ11.out;have:=HK4.out;omega);case rel=>exact⟨(U),(wrap64 (U+1)),qr,qr,Y,⟨by have:=HK1.out;have:=HJ6.out;have:=HJ11.out;have:=HK4.out;omega⟩,rka D,hba HB⟩
              have ba:=beq_eq_false_iff_ne.mpr ay;have be:=bne_iff_ne.mpr ay;replace H:=bsm H;obtain⟨ak,bo,H⟩:=H;replace H:=ic H;rcases H with⟨au,H⟩|⟨au,H⟩
              ·have a7:decide ((ak.size:Int)<(ab.size:Int))=true:=decide_eq_true au;have aY:decide (ak.size<ab.size)=true:=decide_eq_true (Int.ofNat_lt.mp au);clear au;have Y:=mk0 H;clear H;go_wp2_with(first|(refine gcl 86 (some 96) ?_;refine gca Tryz.func86 (qp.calls U ab _ aA.out) ?_;rintro e bR⟨rfl,hb⟩;refine⟨_,rfl,?_⟩;replace D:=rkh D hb;replace HB:=bsh HB hb;(try clear hb))|(go_at_call 86;refine(qp.calls Z ak _ bo.out).mono ?_;rintro e bQ⟨rfl,hb⟩;replace D:=rkh D hb;replace HB:=bsh HB hb;(try clear hb)));go_roundg k4;(case measure=>have:=HK1.out;have:=HJ6.out;have:=HJ11.out;have:=HK4.out;omega);case rel=>exact⟨(U),(wrap64 (U+1)),qr,qr,Y,⟨by have:=HK1.out;have:=HJ6.out;have:=HJ11.out;have:=HK4.out;omega⟩,rka D,hba HB⟩
              have a7:decide ((ak.size:Int)<(ab.size:Int))=false:=decide_eq_false au;have aY:decide (ak.size<ab.size)=false:=decide_eq_false (fun h=>au (Int.ofNat_lt.mpr h));clear au;have Y:=mk0 H;clear H;go_wp2_with(first|(refine gcl 86 (some 96) ?_;refine gca Tryz.func86 (qp.calls U ab _ aA.out) ?_;rintro e bZ⟨rfl,hb⟩;refine⟨_,rfl,?_⟩;replace D:=rkh D hb;replace HB:=bsh HB hb;(try clear hb))|(go_at_call 86;refine(qp.calls Z ak _ bo.out).mono ?_;rintro e bV⟨rfl,hb⟩;replace D:=rkh D hb;replace HB:=bsh HB hb;(try clear hb)));go_roundg k4;(case measure=>have:=HK1.out;have:=HJ6.out;have:=HJ11.out;have:=HK4.out;omega);case rel=>exact⟨(Z),(wrap64 (U+1)),qr,qr,Y,⟨by have:=HK1.out;have:=HJ6.out;have:=HJ11.out;have:=HK4.out;omega⟩,rka D,hba HB⟩
             have a8:=beq_eq_false_iff_ne.mpr aw;have a1:=bne_iff_ne.mpr aw;have Y:=mk0 H;clear H;go_wp2_with((refine gcl 86 (some 96) ?_;refine gca Tryz.func86 (qp.calls U ab _ aA.out) ?_;rintro e bW⟨rfl,hb⟩;refine⟨_,rfl,?_⟩;replace D:=rkh D hb;replace HB:=bsh HB hb;(try clear hb)));go_roundg k4;(case measure=>have:=HK1.out;have:=HJ6.out;have:=HJ11.out;have:=HK4.out;omega);case rel=>exact⟨(Z),(wrap64 (U+1)),qr,qr,Y,⟨by have:=HK1.out;have:=HJ6.out;have:=HJ11.out;have:=HK4.out;omega⟩,rka D,hba HB⟩
            have Y:=mk0 H;clear H;go_wp2_with((refine gcl 86 (some 96) ?_;refine gca Tryz.func86 (qp.calls U ab _ aA.out) ?_;rintro e bT⟨rfl,hb⟩;refine⟨_,rfl,?_⟩;replace D:=rkh D hb;replace HB:=bsh HB hb;(try clear hb)));go_roundg k4;(case measure=>have:=HK1.out;have:=HJ6.out;have:=HJ11.out;have:=HK4.out;omega);case rel=>exact⟨(Z),(wrap64 (U+1)),qr,qr,Y,⟨by have:=HK1.out;have:=HJ6.out;have:=HJ11.out;have:=HK4.out;omega⟩,rka D,hba HB⟩
           replace H:=ic H;rcases H with⟨av,H⟩|⟨av,H⟩
           ·have bc:=beq_iff_eq.mpr av;have bb:=bne_eq_false_iff_eq.mpr av;clear av;obtain⟨rfl,rfl⟩:=sj2 H;clear H;go_wp2;go_ret2;exact⟨_,qf,by first|exact Kd.sO _ _ _ _ _|exact Kd.xq _ _ _ _ _,by exact bok HB.out⟩
           have bc:=beq_eq_false_iff_ne.mpr av;have bb:=bne_iff_ne.mpr av;replace H:=ilp H;obtain⟨a5,H⟩:=H;obtain⟨bm,aH⟩:=nv (I++[(⟨Z,0⟩:kD)]:List (kD));rw[←aH.out]at H;replace H:=bsm H;obtain⟨aR,bH,H⟩:=H;have Y:=mk0 H;clear H;go_wp2_with(first|((with_reducible refine kW (b:= .append) (xs:=#[.tmp 130, .tmp 133]) rfl ?_);(try(refine qg (by rfl) ?_;dsimp only));at_builtin;refine Kd.rF tq (w0:=w) w.heap.size rfl (.tmp 130) (.tmp 133) 71 118 (.agg #[(.int .i64 0),(.int .i64 0)]) 16 rfl Tryz.underlying71 uG rfl (by decide) (by omega) u4 I (⟨Z,0⟩:kD) [.int .i64 Z, .int .i64 0] (fun _=>True) (fun _=>False) rfl rfl ?aP (fun _ hk=>hk.elim) ?aF ?aO ?aB ?aS ?aL ?_;(case aP=>exact tF _ _ _ (⟨Z,0⟩:kD));(case aB=>exact(by exact bok HB.out));(case aF=>exact(fun _ _=>trivial));(case aO=>exact(by exact rok D.out));(case aS=>exact(kN (by exact bok HB.out)));(case aL=>have:=a5.out;omega);intro bM bU ho hb hg aE;rw[←aH.out]at ho;replace HB:=mk0 hb;have ar:=mk0 ho;clear D;clear ho hb hg aE)|(refine gcl 86 (some 137) ?_;refine gca Tryz.func86 (qp.calls Z aR _ bH.out) ?_;rintro e bX⟨rfl,hb⟩;refine⟨_,rfl,?_⟩;replace ar:=rkh ar hb;replace HB:=bsh HB hb;(try clear hb)));go_roundg k4;(case measure=>have:=HK1.out;have:=HJ6.out;have:=HJ11.out;have:=HK4.out;omega);case rel=>exact⟨(bm),(wrap64 (G+(aR.size:Int))),qr,Y,⟨by have:=HK1.out;have:=HJ6.out;have:=HJ11.out;have:=HK4.out;omega⟩,rka ar,hba HB⟩
    rw[if_neg c4]at H;exact absurd H (by simp)
   have bh:=decide_eq_false c3;clear c3;obtain⟨rfl,rfl⟩:=sj2 H;clear H;go_wp2;go_ret2;exact⟨_,qf,by exact rok D.out,by exact bok HB.out⟩
end Go.Proofs.G
