/- What Go functions compute, as plain Lean functions, and. -/
import Derived.Test.YtcaegaljhogbjaaGreatDoorYx1
set_option linter.unusedSimpArgs false
set_option linter.unusedVariables false
set_option maxHeartbeats 8000000
set_option maxRecDepth 100000
namespace Go.Proofs.Y
open Ext B Q RowKit PW PL PM
attribute [local go_sem] qI qH qV qW qz qA qM qL
def iD.l0:Nat→Int→List Int→Int→ByteArray→List (S38)→List (S40)→Option (List Int)
 |0,_,_,_,_,_,_=>none
 |k+1,x1,x5,x6,x136000,x136001,x136002=>if x6<(x136002.length:Int)then(if 0≤x6 then(if((iR x136002 x6).f0)=x1 then(if x5.length<17592186044416 then(iD.l0 k x1 (x5++[wrap64 (x6+1)]) (wrap64 (x6+1)) x136000 x136001 x136002)else(none))else(iD.l0 k x1 x5 (wrap64 (x6+1)) x136000 x136001 x136002))else(none))else(some x5)
def iD.f(k:Nat)(G:ByteArray)(I:List (S38))(D:List (S40))(L:Int):Option (List Int):=iD.l0 k L ([]:List Int) 0 G I D
theorem iD.tL:∀k,(∀X L D G I U,LeO (iD.l0 k X L D G I U) (iD.l0 (k+1) X L D G I U))
 |0=>fun _ _ _ _ _ _ r h=>by simp[iD.l0]at h
 |k+1=>by
  have ih0:=iD.tL k
  intro X L D G I U
  unfold iD.l0
  exact mon
theorem iD.mono:∀G L I D k,LeO (iD.f k G L I D) (iD.f (k+1) G L I D):=by
 intro G L I D k;have ih0:=iD.tL k;unfold iD.f;exact mon
theorem iD.calls(k:Nat)(U:ByteArray)(aa:Option Addr)(ab:Nat)(I:List (S38))(ae:Option Addr)(Y:Nat)(L:List (S40))(a1:Int)(r:List Int)(w:World)(ak:Kd.C k38 w aa I.length I)(al:I.length≤ab)(aq:Kd.C k40 w ae L.length L)(af:L.length≤Y)(h:iD.f k U I L a1=some r):
  Calls Tryz.prog 13 #[.agg #[.string U, .slice aa I.length ab, .slice ae L.length Y], .int .i64 a1] w fun e w'=>∃az:Value,e= .returned (az)∧Kd.R (Kd.int .i64) 3 w' w.heap.size (fun _=>True) az r∧Below w.heap.size w w':=by
 have aN:=Tryz.underlying25;have aG:=mk0 ak;have aH:=mk0 al;clear ak al;have ag:=mk0 aq;have aK:=mk0 af;clear aq af;have HB:=mk0 (Below.refl w.heap.size w);unfold iD.f at h;have H:=h;clear h;have H':=mk0 H;clear H;go_enter Tryz.func13,Tryz.ntmps13;go_wp2_with((refine bxe 2 (cs:=#[.string U, .slice aa I.length ab, .slice ae L.length Y]) (t:=25) ?_;intro ar hg w3 au hb;have D:=mk0 au;have aJ:=glh hg HB;replace HB:=bsh HB hb;clear hb au hg));go_loopg [5,6] k (fun kq v5 v6 w'=>∃(X:List Int) (G:Int),v6= .int .i64 G∧eD (iD.l0 kq a1 X G U I L=some r)∧eD (kq≤k)∧eD (Kd.R (Kd.int .i64) 3 w' w.heap.size (fun _=>True) v5 X)∧eD (w'.heap[ar]?=some (.cells #[.string U,(.slice aa I.length ab),(.slice ae L.length Y)] 25 (0,0)))∧eD (Below w.heap.size w w'));case atStart=>exact⟨(([]:List Int)),(0),qr,H',⟨Nat.le_refl _⟩,⟨by first|exact Kd.sO _ _ _ _ _|exact Kd.xq _ _ _ _ _⟩,bka D,hba HB⟩
 case round=>
  clear H';obtain⟨X,G,rfl,HA,HK1,Z,D,HB⟩:=hrel;cases gk with
  |zero=>exact absurd HA.out (by simp[iD.l0])
  |succ k1=>
   have H:=HA.out;clear HA;simp only[iD.l0]at H;replace H:=icd H;rcases H with⟨ax,H⟩|⟨ax,H⟩
   ·replace H:=idp H;obtain⟨_,H⟩:=H;replace H:=ic H;rcases H with⟨c6,H⟩|⟨c6,H⟩
    ·have aw:=beq_iff_eq.mpr c6;have aE:=bne_eq_false_iff_eq.mpr c6;clear c6;replace H:=ilp H;obtain⟨aA,H⟩:=H;obtain⟨aD,ah⟩:=nv (X++[wrap64 (G+1)]:List Int);rw[←ah.out]at H;have H':=mk0 H;clear H;obtain⟨_,_,_,_,_,_⟩:=qc D.out;obtain⟨am,rfl,ai,aj,an,ap,ao,aC,ay⟩:=vB ag HB G;go_wp2_with(((with_reducible refine kW (b:= .append) (xs:=#[.tmp 22, .tmp 25]) rfl ?_);at_builtin;refine Kd.rF (Kd.int .i64) (w0:=w) w.heap.size rfl (.tmp 22) (.tmp 25) 36 3 (.int .i64 0) 8 rfl Tryz.underlying36 info3 rfl (by decide) (by omega) u5 X (wrap64 (G+1)) [.int .i64 (wrap64 (G+1))] (fun _=>True) (fun _=>False) rfl rfl ?aP (fun _ hk=>hk.elim) ?aF ?aO ?aB ?aS ?aL ?_;(case aP=>exact rfl);(case aB=>exact(by exact bok HB.out));(case aF=>exact(fun _ _=>trivial));(case aO=>exact(by exact rok Z.out));(case aS=>exact(kN (by exact bok HB.out)));(case aL=>have:=aA.out;omega);intro aM w9 ho hb hg aI;rw[←ah.out]at ho;replace D:=mk0 (qD (g:=ar) (o:= .cells #[.string U, .slice aa I.length ab, .slice (some am) L.length Y] 25 (0,0)) (by exact obk D.out) hg (Kd.sH Z.out D.out (by decide)));replace HB:=mk0 hb;have av:=mk0 ho;clear Z;clear ho hb hg aI));go_roundg k1;(case measure=>have:=HK1.out;omega);case rel=>exact⟨(aD),(wrap64 (G+1)),qr,H',qk,rka av,bka D,hba HB⟩
    have aw:=beq_eq_false_iff_ne.mpr c6;have aE:=bne_iff_ne.mpr c6;have H':=mk0 H;clear H;obtain⟨_,_,_,_,_,_⟩:=qc D.out;obtain⟨am,rfl,ai,aj,an,ap,ao,aC,ay⟩:=vB ag HB G;go_wp2;go_roundg k1;(case measure=>have:=HK1.out;omega);case rel=>exact⟨(X),(wrap64 (G+1)),qr,H',qk,rka Z,bka D,hba HB⟩
   obtain rfl:=Option.some.inj H;obtain⟨_,_,_,_,_,_⟩:=qc D.out;go_wp2;go_ret;exact⟨_,qf,by exact rok Z.out,by exact bok HB.out⟩
def iM.l0:Nat→Int→List Int→Int→ByteArray→List (S38)→List (S40)→Option (List Int)
 |0,_,_,_,_,_,_=>none
 |k+1,x1,x5,x6,x141000,x141001,x141002=>if x6<(x141002.length:Int)then(if 0≤x6 then(if((iR x141002 x6).f1)=x1 then(if x5.length<17592186044416 then(iM.l0 k x1 (x5++[wrap64 (x6+1)]) (wrap64 (x6+1)) x141000 x141001 x141002)else(none))else(iM.l0 k x1 x5 (wrap64 (x6+1)) x141000 x141001 x141002))else(none))else(some x5)
def iM.f(k:Nat)(G:ByteArray)(I:List (S38))(D:List (S40))(L:Int):Option (List Int):=iM.l0 k L ([]:List Int) 0 G I D
theorem iM.tL:∀k,(∀X L D G I U,LeO (iM.l0 k X L D G I U) (iM.l0 (k+1) X L D G I U))
 |0=>fun _ _ _ _ _ _ r h=>by simp[iM.l0]at h
 |k+1=>by
  have ih0:=iM.tL k
  intro X L D G I U
  unfold iM.l0
  exact mon
theorem iM.mono:∀G L I D k,LeO (iM.f k G L I D) (iM.f (k+1) G L I D):=by
 intro G L I D k;have ih0:=iM.tL k;unfold iM.f;exact mon
theorem iM.calls(k:Nat)(U:ByteArray)(aa:Option Addr)(ab:Nat)(I:List (S38))(ae:Option Addr)(Y:Nat)(L:List (S40))(a1:Int)(r:List Int)(w:World)(am:Kd.C k38 w aa I.length I)(an:I.length≤ab)(aq:Kd.C k40 w ae L.length L)(af:L.length≤Y)(h:iM.f k U I L a1=some r):
  Calls Tryz.prog 51 #[.agg #[.string U, .slice aa I.length ab, .slice ae L.length Y], .int .i64 a1] w fun e w'=>∃aC:Value,e= .returned (aC)∧Kd.R (Kd.int .i64) 3 w' w.heap.size (fun _=>True) aC r∧Below w.heap.size w w':=by
 have aM:=Tryz.underlying25;have aG:=mk0 am;have aH:=mk0 an;clear am an;have ah:=mk0 aq;have aK:=mk0 af;clear aq af;have HB:=mk0 (Below.refl w.heap.size w);unfold iM.f at h;have H:=h;clear h;have H':=mk0 H;clear H;go_enter Tryz.func51,Tryz.ntmps51;go_wp2_with((refine bxe 2 (cs:=#[.string U, .slice aa I.length ab, .slice ae L.length Y]) (t:=25) ?_;intro ar hg w3 au hb;have D:=mk0 au;have aI:=glh hg HB;replace HB:=bsh HB hb;clear hb au hg));go_loopg [5,6] k (fun kq v5 v6 w'=>∃(X:List Int) (G:Int),v6= .int .i64 G∧eD (iM.l0 kq a1 X G U I L=some r)∧eD (kq≤k)∧eD (Kd.R (Kd.int .i64) 3 w' w.heap.size (fun _=>True) v5 X)∧eD (w'.heap[ar]?=some (.cells #[.string U,(.slice aa I.length ab),(.slice ae L.length Y)] 25 (0,0)))∧eD (Below w.heap.size w w'));case atStart=>exact⟨(([]:List Int)),(0),qr,H',⟨Nat.le_refl _⟩,⟨by first|exact Kd.sO _ _ _ _ _|exact Kd.xq _ _ _ _ _⟩,bka D,hba HB⟩
 case round=>
  clear H';obtain⟨X,G,rfl,HA,HK1,Z,D,HB⟩:=hrel;cases gk with
  |zero=>exact absurd HA.out (by simp[iM.l0])
  |succ k1=>
   have H:=HA.out;clear HA;simp only[iM.l0]at H;replace H:=icd H;rcases H with⟨az,H⟩|⟨az,H⟩
   ·replace H:=idp H;obtain⟨_,H⟩:=H;replace H:=ic H;rcases H with⟨c6,H⟩|⟨c6,H⟩
    ·have aw:=beq_iff_eq.mpr c6;have aE:=bne_eq_false_iff_eq.mpr c6;clear c6;replace H:=ilp H;obtain⟨aD,H⟩:=H;obtain⟨ax,ak⟩:=nv (X++[wrap64 (G+1)]:List Int);rw[←ak.out]at H;have H':=mk0 H;clear H;obtain⟨_,_,_,_,_,_⟩:=qc D.out;obtain⟨ai,rfl,ag,aj,ao,al,ap,ay,aA⟩:=vB ah HB G;go_wp2_with(((with_reducible refine kW (b:= .append) (xs:=#[.tmp 22, .tmp 25]) rfl ?_);at_builtin;refine Kd.rF (Kd.int .i64) (w0:=w) w.heap.size rfl (.tmp 22) (.tmp 25) 36 3 (.int .i64 0) 8 rfl Tryz.underlying36 info3 rfl (by decide) (by omega) u5 X (wrap64 (G+1)) [.int .i64 (wrap64 (G+1))] (fun _=>True) (fun _=>False) rfl rfl ?aP (fun _ hk=>hk.elim) ?aF ?aO ?aB ?aS ?aL ?_;(case aP=>exact rfl);(case aB=>exact(by exact bok HB.out));(case aF=>exact(fun _ _=>trivial));(case aO=>exact(by exact rok Z.out));(case aS=>exact(kN (by exact bok HB.out)));(case aL=>have:=aD.out;omega);intro aN w9 ho hb hg aJ;rw[←ak.out]at ho;replace D:=mk0 (qD (g:=ar) (o:= .cells #[.string U, .slice aa I.length ab, .slice (some ai) L.length Y] 25 (0,0)) (by exact obk D.out) hg (Kd.sH Z.out D.out (by decide)));replace HB:=mk0 hb;have av:=mk0 ho;clear Z;clear ho hb hg aJ));go_roundg k1;(case measure=>have:=HK1.out;omega);case rel=>exact⟨(ax),(wrap64 (G+1)),qr,H',qk,rka av,bka D,hba HB⟩
    have aw:=beq_eq_false_iff_ne.mpr c6;have aE:=bne_iff_ne.mpr c6;have H':=mk0 H;clear H;obtain⟨_,_,_,_,_,_⟩:=qc D.out;obtain⟨ai,rfl,ag,aj,ao,al,ap,ay,aA⟩:=vB ah HB G;go_wp2;go_roundg k1;(case measure=>have:=HK1.out;omega);case rel=>exact⟨(X),(wrap64 (G+1)),qr,H',qk,rka Z,bka D,hba HB⟩
   obtain rfl:=Option.some.inj H;obtain⟨_,_,_,_,_,_⟩:=qc D.out;go_wp2;go_ret;exact⟨_,qf,by exact rok Z.out,by exact bok HB.out⟩
def ig.j0:Nat→Int→Int→Int→Bool→Option (Bool)
 |0,_,_,_,_=>none
 |k+1,x5,x6,x17,x18=>if x18=true then(if x5=0 then(some (x6==1))else(some false))else(if x17=2 then(if x5=1 then(some (x6==0))else(some false))else(if x17=9 then(if x5=0 then(some (x6==0))else(some false))else(if x17=5 then(if x5=1 then(if x6≥2 then(some true)else(if x5≥2 then(some (x6==1))else(some false)))else(if x5≥2 then(some (x6==1))else(some false)))else(if x17=6 then(if x5=1 then(if x6≥2 then(some true)else(if x5≥2 then(some (x6==1))else(some false)))else(if x5≥2 then(some (x6==1))else(some false)))else(if x5=1 then(some (x6==1))else(some false))))))
def ig.f(k:Nat)(I:ByteArray)(L:List (S38))(G:List (S40))(Y:Int):Option (Bool):=(iM.f k I L G Y).bind fun U=>((iD.f k I L G Y).bind fun X=>((iL.f I L G Y).bind fun D=>(if D=1 then(ig.j0 k (U.length:Int) (X.length:Int) D (D==1))else(ig.j0 k (U.length:Int) (X.length:Int) D (D==8)))))
theorem ig.tL:∀k,(∀L G D I,LeO (ig.j0 k L G D I) (ig.j0 (k+1) L G D I))
 |0=>fun _ _ _ _ r h=>by simp[ig.j0]at h
 |k+1=>by
  have ih0:=ig.tL k
  intro L G D I
  unfold ig.j0
  have m0:=@iM.mono
  have m1:=@iD.mono
  exact mon
theorem ig.mono:∀G L I D k,LeO (ig.f k G L I D) (ig.f (k+1) G L I D):=by
 intro G L I D k;have ih0:=ig.tL k;unfold ig.f;have m0:=@iM.mono;have m1:=@iD.mono;exact mon
def ig.T1:Bool×List (List Nat×List Nat):=(true,[([],[]),([],[]),([0,1],[0,1]),([2],[2]),([],[]),([],[]),([4,5,2],[4,5]),([6],[6]),([3,6,0,1,2,3],[3]),([7,8,0,1,2,3,4,5,6,7,8],[7])])
def ig.B1:List Nat:=[0,0,3,7,0,0,55,119,127,511]
theorem ig.MP:sQ .any (opsOf Tryz.f30 1)=ig.T1:=by kernel_rfl
theorem ig.Mq:rP ig.T1.2 ig.B1=true:=by kernel_rfl
theorem ig.calls(k:Nat)(Y:ByteArray)(ab:Option Addr)(ae:Nat)(I:List (S38))(ag:Option Addr)(af:Nat)(L:List (S40))(a1:Int)(r:Bool)(w:World)(aG:Kd.C k38 w ab I.length I)(aJ:I.length≤ae)(aI:Kd.C k40 w ag L.length L)(aB:L.length≤af)(h:ig.f k Y I L a1=some r):
  Calls Tryz.prog 30 #[.agg #[.string Y, .slice ab I.length ae, .slice ag L.length af], .int .i64 a1] w fun e w'=>e= .returned (.bool r)∧Below w.heap.size w w':=by
 have bw:=Tryz.underlying25;have ak:=mk0 aG;have an:=mk0 aJ;clear aG aJ;have al:=mk0 aI;have ao:=mk0 aB;clear aI aB;have HB:=mk0 (Below.refl w.heap.size w);unfold ig.f at h;have H:=h;clear h;replace H:=bsm H;obtain⟨G,A3,H⟩:=H;replace H:=bsm H;obtain⟨U,A4,H⟩:=H;replace H:=bsm H;obtain⟨ap,A5,H⟩:=H;have aQ:=mk0 H;clear H;go_enter Tryz.func30,Tryz.ntmps30;try go_wp2_with((refine bxe 2 (cs:=#[.string Y, .slice ab I.length ae, .slice ag L.length af]) (t:=25) ?_;intro aa hg w7 aO hb;have D:=mk0 aO;have bs:=glh hg HB;replace HB:=bsh HB hb;clear hb aO hg))
 replace D:=dB D;replace HB:=dW HB;refine sta ig.MP ig.Mq (n:=10) (S:=fun w'=>w'.cell? ⟨aa,0,none⟩=some (.string Y)∧w'.cell? ⟨aa,1,none⟩=some (.slice ab I.length ae)∧w'.cell? ⟨aa,2,none⟩=some (.slice ag L.length af)) (ds:=[]) ⟨cl D 0,cl D 1,cl D 2⟩ fun hHeld HT_ HW_=>?_;generalize w7.drew=w8 at D HB hHeld⊢;refine pur 1 8 ?_;refine pur 5 12 ?_;refine tak 0 7 ?_;refine tak 4 11 ?_;refine onn 2 (some 9) fun K hK=>?_;refine gog Tryz.func51 (iM.calls k Y _ _ I _ _ L a1 G _ (cok ak HB) an.out (cok al HB) ao.out A3.out) ?_;rintro e w9⟨_,rfl,aL,hb⟩;refine⟨_,rfl,?_⟩;have X:=rlh aL HB;replace D:=bkh D hb;replace HB:=bsh HB hb;obtain⟨_,_,aM⟩:=Kd.qw X.out;(first|subst aM|(injection aM with f1_ f2_ f3_;have bm:=f1_.symm;have aS:=f3_.symm;clear f1_ f2_ f3_;subst bm;subst aS));refine hK.out _ _ ⟨cl D 0,cl D 1,cl D 2⟩ fun hHeld=>?_;clear hK K;refine nrm ?_;refine pur 3 10 ?_;refine onn 6 (some 13) fun K hK=>?_;refine gog Tryz.func13 (iD.calls k Y _ _ I _ _ L a1 U _ (cok ak HB) an.out (cok al HB) ao.out A4.out) ?_;rintro e bx⟨_,rfl,aL,hb⟩;refine⟨_,rfl,?_⟩;have am:=mk0 (Kd.uW (Kd.vY aL (Kd.Ac (by exact rok X.out))) (kN (by exact bok HB.out)));replace X:=mk0 (Kd.uq (by exact rok X.out) (Kd.vZ aL) hb);replace D:=bkh D hb;replace HB:=bsh HB hb;obtain⟨_,_,aN⟩:=Kd.qw am.out;(first|subst aN|(injection aN with f1_ f2_ f3_;have bm:=f1_.symm;have aS:=f3_.symm;clear f1_ f2_ f3_;subst bm;subst aS));refine hK.out _ _ ⟨cl D 0,cl D 1,cl D 2⟩ fun hHeld=>?_;clear hK K;refine nrm ?_;refine pur 7 14 ?_;refine pur 8 5 ?_;refine pur 9 6 ?_;refine dne ?_;obtain⟨_,_,_,_,_,_⟩:=qc D.out;go_upto_if 18 with((refine gcl 48 (some 17) ?_;refine gca Tryz.func48 (iL.calls Y _ _ I _ _ L a1 ap _ (cok ak HB) an.out (cok al HB) ao.out A5.out) ?_;rintro e bz⟨rfl,hb⟩;refine⟨_,rfl,?_⟩;replace X:=rkh X hb;replace am:=rkh am hb;replace D:=bkh D hb;replace HB:=bsh HB hb;(try clear hb)))
 (try simp only[Act.put,List.setIfInBounds_toArray,List.set_cons_zero,List.set_cons_succ]);go_cut [18] (fun bv wc=>∃(kq:Nat) (aj:Bool),bv= .bool aj∧eD (ig.j0 kq (G.length:Int) (U.length:Int) ap aj=some r)∧eD (kq≤k)∧eD (wc.heap[aa]?=some (.cells #[.string Y,(.slice ab I.length ae),(.slice ag L.length af)] 25 (0,0)))∧eD (Below w.heap.size w wc))
 case first=>
  have H:=aQ.out;clear aQ;replace H:=ic H;rcases H with⟨aq,H⟩|⟨aq,H⟩
  ·have Z:=beq_iff_eq.mpr aq;have a4:=bne_eq_false_iff_eq.mpr aq;clear aq;(first|rw[Z]|(simp only[kZ,qY];rw[Z])|skip);have H':=mk0 H;clear H;go_wp2;go_meet;case rel=>exact⟨_,((ap==1)),qr,H',ql,bka D,hba HB⟩
  have Z:=beq_eq_false_iff_ne.mpr aq;have a4:=bne_iff_ne.mpr aq;(first|rw[Z]|(simp only[kZ,qY];rw[Z])|skip);have H':=mk0 H;clear H;go_wp2;go_meet;case rel=>exact⟨_,((ap==8)),qr,H',ql,bka D,hba HB⟩
 case rest=>
  clear aQ;obtain⟨kq,aj,rfl,HA,HJ5,D,HB⟩:=hcut;cases kq with
  |zero=>exact absurd HA.out (by simp[ig.j0])
  |succ kj5=>
   have H:=HA.out;clear HA;simp only[ig.j0]at H;replace H:=icb H;rcases H with⟨rfl,H⟩|⟨rfl,H⟩
   ·replace H:=ic H;rcases H with⟨ah,H⟩|⟨ah,H⟩
    ·have aP:=beq_iff_eq.mpr ah;have bj:=bne_eq_false_iff_eq.mpr ah;clear ah;obtain rfl:=Option.some.inj H;go_wp2;go_ret;exact⟨qe,bok HB.out⟩
    have aP:=beq_eq_false_iff_ne.mpr ah;have bj:=bne_iff_ne.mpr ah;have br:¬(G=[]):=fun h_=>ah (by rw[h_];rfl);obtain rfl:=Option.some.inj H;go_wp2;go_ret;exact⟨qe,bok HB.out⟩
   replace H:=ic H;rcases H with⟨ay,H⟩|⟨ay,H⟩
   ·have bi:=beq_iff_eq.mpr ay;have bc:=bne_eq_false_iff_eq.mpr ay;clear ay;replace H:=ic H;rcases H with⟨ax,H⟩|⟨ax,H⟩
    ·have bl:=beq_iff_eq.mpr ax;have aW:=bne_eq_false_iff_eq.mpr ax;clear ax;obtain rfl:=Option.some.inj H;go_wp2;go_ret;exact⟨qe,bok HB.out⟩
    have bl:=beq_eq_false_iff_ne.mpr ax;have aW:=bne_iff_ne.mpr ax;obtain rfl:=Option.some.inj H;go_wp2;go_ret;exact⟨qe,bok HB.out⟩
   have bi:=beq_eq_false_iff_ne.mpr ay;have bc:=bne_iff_ne.mpr ay;replace H:=ic H;rcases H with⟨az,H⟩|⟨az,H⟩
   ·have a5:=beq_iff_eq.mpr az;have aY:=bne_eq_false_iff_eq.mpr az;clear az;replace H:=ic H;rcases H with⟨ai,H⟩|⟨ai,H⟩
    ·have a2:=beq_iff_eq.mpr ai;have be:=bne_eq_false_iff_eq.mpr ai;clear ai;obtain rfl:=Option.some.inj H;go_wp2;go_ret;exact⟨qe,bok HB.out⟩
    have a2:=beq_eq_false_iff_ne.mpr ai;have be:=bne_iff_ne.mpr ai;have bu:¬(G=[]):=fun h_=>ai (by rw[h_];rfl);obtain rfl:=Option.some.inj H;go_wp2;go_ret;exact⟨qe,bok HB.out⟩
   have a5:=beq_eq_false_iff_ne.mpr az;have aY:=bne_iff_ne.mpr az;replace H:=ic H;rcases H with⟨aw,H⟩|⟨aw,H⟩
   ·have a9:=beq_iff_eq.mpr aw;have aR:=bne_eq_false_iff_eq.mpr aw;clear aw;replace H:=ic H;rcases H with⟨au,H⟩|⟨au,H⟩
    ·have bo:=beq_iff_eq.mpr au;have a3:=bne_eq_false_iff_eq.mpr au;clear au;replace H:=ic H;rcases H with⟨aH,H⟩|⟨aH,H⟩
     ·have aZ:decide (2≤(U.length:Int))=true:=decide_eq_true aH;have bn:decide (2≤U.length)=true:=decide_eq_true (by omega);clear aH;obtain rfl:=Option.some.inj H;go_wp2;go_ret;exact⟨qe,bok HB.out⟩
     have aZ:decide (2≤(U.length:Int))=false:=decide_eq_false aH;have bn:decide (2≤U.length)=false:=decide_eq_false (by omega);clear aH;replace H:=ic H;rcases H with⟨aE,H⟩|⟨aE,H⟩
     ·have aU:decide (2≤(G.length:Int))=true:=decide_eq_true aE;have a0:decide (2≤G.length)=true:=decide_eq_true (by omega);clear aE;obtain rfl:=Option.some.inj H;go_wp2;go_ret;exact⟨qe,bok HB.out⟩
     have aU:decide (2≤(G.length:Int))=false:=decide_eq_false aE;have a0:decide (2≤G.length)=false:=decide_eq_false (by omega);clear aE;obtain rfl:=Option.some.inj H;go_wp2;go_ret;exact⟨qe,bok HB.out⟩
    have bo:=beq_eq_false_iff_ne.mpr au;have a3:=bne_iff_ne.mpr au;replace H:=ic H;rcases H with⟨aD,H⟩|⟨aD,H⟩
    ·have bd:decide (2≤(G.length:Int))=true:=decide_eq_true aD;have a7:decide (2≤G.length)=true:=decide_eq_true (by omega);clear aD;obtain rfl:=Option.some.inj H;go_wp2;go_ret;exact⟨qe,bok HB.out⟩
    have bd:decide (2≤(G.length:Int))=false:=decide_eq_false aD;have a7:decide (2≤G.length)=false:=decide_eq_false (by omega);clear aD;obtain rfl:=Option.some.inj H;go_wp2;go_ret;exact⟨qe,bok HB.out⟩
   have a9:=beq_eq_false_iff_ne.mpr aw;have aR:=bne_iff_ne.mpr aw;replace H:=ic H;rcases H with⟨av,H⟩|⟨av,H⟩
   ·have bb:=beq_iff_eq.mpr av;have bq:=bne_eq_false_iff_eq.mpr av;clear av;replace H:=ic H;rcases H with⟨ar,H⟩|⟨ar,H⟩
    ·have a8:=beq_iff_eq.mpr ar;have bp:=bne_eq_false_iff_eq.mpr ar;clear ar;replace H:=ic H;rcases H with⟨aF,H⟩|⟨aF,H⟩
     ·have bf:decide (2≤(U.length:Int))=true:=decide_eq_true aF;have aV:decide (2≤U.length)=true:=decide_eq_true (by omega);clear aF;obtain rfl:=Option.some.inj H;go_wp2;go_ret;exact⟨qe,bok HB.out⟩
     have bf:decide (2≤(U.length:Int))=false:=decide_eq_false aF;have aV:decide (2≤U.length)=false:=decide_eq_false (by omega);clear aF;replace H:=ic H;rcases H with⟨aC,H⟩|⟨aC,H⟩
     ·have bh:decide (2≤(G.length:Int))=true:=decide_eq_true aC;have bk:decide (2≤G.length)=true:=decide_eq_true (by omega);clear aC;obtain rfl:=Option.some.inj H;go_wp2;go_ret;exact⟨qe,bok HB.out⟩
     have bh:decide (2≤(G.length:Int))=false:=decide_eq_false aC;have bk:decide (2≤G.length)=false:=decide_eq_false (by omega);clear aC;obtain rfl:=Option.some.inj H;go_wp2;go_ret;exact⟨qe,bok HB.out⟩
    have a8:=beq_eq_false_iff_ne.mpr ar;have bp:=bne_iff_ne.mpr ar;replace H:=ic H;rcases H with⟨aK,H⟩|⟨aK,H⟩
    ·have ba:decide (2≤(G.length:Int))=true:=decide_eq_true aK;have aX:decide (2≤G.length)=true:=decide_eq_true (by omega);clear aK;obtain rfl:=Option.some.inj H;go_wp2;go_ret;exact⟨qe,bok HB.out⟩
    have ba:decide (2≤(G.length:Int))=false:=decide_eq_false aK;have aX:decide (2≤G.length)=false:=decide_eq_false (by omega);clear aK;obtain rfl:=Option.some.inj H;go_wp2;go_ret;exact⟨qe,bok HB.out⟩
   have bb:=beq_eq_false_iff_ne.mpr av;have bq:=bne_iff_ne.mpr av;replace H:=ic H;rcases H with⟨aA,H⟩|⟨aA,H⟩
   ·have a6:=beq_iff_eq.mpr aA;have aT:=bne_eq_false_iff_eq.mpr aA;clear aA;obtain rfl:=Option.some.inj H;go_wp2;go_ret;exact⟨qe,bok HB.out⟩
   have a6:=beq_eq_false_iff_ne.mpr aA;have aT:=bne_iff_ne.mpr aA;obtain rfl:=Option.some.inj H;go_wp2;go_ret;exact⟨qe,bok HB.out⟩
end Go.Proofs.Y
