/- What Go functions compute, as plain Lean functions, and. -/
import Derived.Test.YtcaegaljhogbjaaGreatDoorRefFlow
import Derived.Test.YtcaegaljhogbjaaGreatDoorRefNode
set_option linter.unusedSimpArgs false
set_option linter.unusedVariables false
namespace Go.Proofs.Y
open Gr
open Ext B Q RowKit PW PL PM
attribute [local go_sem] qI qH qV qW qz qA qM qL
mutual
def eu.j0:Nat→Bool→ByteArray→List (S38)→List (S40)→Option (Int×Int)
 |0,_,_,_,_=>none
 |k+1,x26,x171000,x171001,x171002=>if x26=true then(some (0,15))else(eu.l0 k 1 x171000 x171001 x171002)
def eu.l0:Nat→Int→ByteArray→List (S38)→List (S40)→Option (Int×Int)
 |0,_,_,_,_=>none
 |k+1,x4,x171000,x171001,x171002=>if x4≤(x171001.length:Int)then((iZ.f k x171000 x171001 x171002 x4).bind fun D=>(if D=0 then(eu.l0 k (wrap64 (x4+1)) x171000 x171001 x171002)else(some (x4,D))))else(eu.l1 k 1 x171000 x171001 x171002)
def eu.l1:Nat→Int→ByteArray→List (S38)→List (S40)→Option (Int×Int)
 |0,_,_,_,_=>none
 |k+1,x6,x171000,x171001,x171002=>if x6≤(x171002.length:Int)then((iU.f k x171000 x171001 x171002 x6).bind fun D=>(if D=0 then(eu.l1 k (wrap64 (x6+1)) x171000 x171001 x171002)else(some (x6,D))))else(eu.l2 k 1 x171000 x171001 x171002)
def eu.l2:Nat→Int→ByteArray→List (S38)→List (S40)→Option (Int×Int)
 |0,_,_,_,_=>none
 |k+1,x8,x171000,x171001,x171002=>if x8≤(x171001.length:Int)then((ig.f k x171000 x171001 x171002 x8).bind fun D=>(if D=true then(eu.l2 k (wrap64 (x8+1)) x171000 x171001 x171002)else(some (x8,19))))else(eu.l3 k 0 x171000 x171001 x171002)
def eu.l3:Nat→Int→ByteArray→List (S38)→List (S40)→Option (Int×Int)
 |0,_,_,_,_=>none
 |k+1,x9,x171000,x171001,x171002=>if x9≤(x171001.length:Int)then(if x9=0 then((iG.f k x171000 x171001 x171002 x9).bind fun G=>(if G=true then(eu.l3 k (wrap64 (x9+1)) x171000 x171001 x171002)else(some (x9,19))))else((kV.f x171000 x171001 x171002 x9).bind fun I=>(if I=true then((iG.f k x171000 x171001 x171002 x9).bind fun D=>(if D=true then(eu.l3 k (wrap64 (x9+1)) x171000 x171001 x171002)else(some (x9,19))))else(eu.l3 k (wrap64 (x9+1)) x171000 x171001 x171002))))else(eu.l4 k 1 x171000 x171001 x171002)
def eu.l4:Nat→Int→ByteArray→List (S38)→List (S40)→Option (Int×Int)
 |0,_,_,_,_=>none
 |k+1,x10,x171000,x171001,x171002=>if x10≤(x171001.length:Int)then((iI.f k x171000 x171001 x171002 x10).bind fun D=>(if D>5 then(some (x10,15))else(eu.l4 k (wrap64 (x10+1)) x171000 x171001 x171002)))else(some (0,0))
end
def eu.f(k:Nat)(I:ByteArray)(D:List (S38))(G:List (S40)):Option (Int×Int):=if(D.length:Int)=0 then(eu.j0 k true I D G)else(if(D.length:Int)>60 then(eu.j0 k true I D G)else(eu.j0 k (decide ((G.length:Int)>90)) I D G))
theorem eu.tL:∀k,(∀L D I G,LeO (eu.j0 k L D I G) (eu.j0 (k+1) L D I G))∧(∀L D I G,LeO (eu.l0 k L D I G) (eu.l0 (k+1) L D I G))∧(∀L D I G,LeO (eu.l1 k L D I G) (eu.l1 (k+1) L D I G))∧(∀L D I G,LeO (eu.l2 k L D I G) (eu.l2 (k+1) L D I G))∧(∀L D I G,LeO (eu.l3 k L D I G) (eu.l3 (k+1) L D I G))∧(∀L D I G,LeO (eu.l4 k L D I G) (eu.l4 (k+1) L D I G))
 |0=>⟨fun _ _ _ _ r h=>by simp[eu.j0]at h,fun _ _ _ _ r h=>by simp[eu.l0]at h,fun _ _ _ _ r h=>by simp[eu.l1]at h,fun _ _ _ _ r h=>by simp[eu.l2]at h,fun _ _ _ _ r h=>by simp[eu.l3]at h,fun _ _ _ _ r h=>by simp[eu.l4]at h⟩
 |k+1=>by
  obtain⟨ih0,ih1,ih2,ih3,ih4,ih5⟩:=eu.tL k
  refine⟨?_,?_,?_,?_,?_,?_⟩
  ·intro L D I G;unfold eu.j0;have m0:=@iI.mono;have m1:=@ig.mono;have m2:=@iG.mono;have m3:=@iU.mono;have m4:=@iZ.mono;exact mon
  ·intro L D I G;unfold eu.l0;have m0:=@iI.mono;have m1:=@ig.mono;have m2:=@iG.mono;have m3:=@iU.mono;have m4:=@iZ.mono;exact mon
  ·intro L D I G;unfold eu.l1;have m0:=@iI.mono;have m1:=@ig.mono;have m2:=@iG.mono;have m3:=@iU.mono;have m4:=@iZ.mono;exact mon
  ·intro L D I G;unfold eu.l2;have m0:=@iI.mono;have m1:=@ig.mono;have m2:=@iG.mono;have m3:=@iU.mono;have m4:=@iZ.mono;exact mon
  ·intro L D I G;unfold eu.l3;have m0:=@iI.mono;have m1:=@ig.mono;have m2:=@iG.mono;have m3:=@iU.mono;have m4:=@iZ.mono;exact mon
  intro L D I G
  unfold eu.l4
  have m0:=@iI.mono
  have m1:=@ig.mono
  have m2:=@iG.mono
  have m3:=@iU.mono
  have m4:=@iZ.mono
  exact mon
theorem eu.mono:∀D I G k,LeO (eu.f k D I G) (eu.f (k+1) D I G):=by
 intro D I G k;obtain⟨ih0,ih1,ih2,ih3,ih4,ih5⟩:=eu.tL k;unfold eu.f;have m0:=@iI.mono;have m1:=@ig.mono;have m2:=@iG.mono;have m3:=@iU.mono;have m4:=@iZ.mono;exact mon
set_option maxHeartbeats 8000000 in
set_option maxRecDepth 100000 in
theorem eu.calls(k:Nat)(L:ByteArray)(ab:Option Addr)(ae:Nat)(G:List (S38))(ag:Option Addr)(af:Nat)(I:List (S40))(r1:Int)(r2:Int)(w:World)(ay:Kd.C k38 w ab G.length G)(az:G.length≤ae)(ax:Kd.C k40 w ag I.length I)(ar:I.length≤af)(h:eu.f k L G I=some (r1,r2)):
  Calls Tryz.prog 10 #[.agg #[.string L, .slice ab G.length ae, .slice ag I.length af]] w fun e w'=>e= .returned (.tuple #[.int .i64 r1, .int .i64 r2])∧Below w.heap.size w w':=by
 have a4:=Tryz.underlying25;have X:=mk0 ay;have Y:=mk0 az;clear ay az;have U:=mk0 ax;have Z:=mk0 ar;clear ax ar;have HB:=mk0 (Below.refl w.heap.size w);unfold eu.f at h;have H:=h;clear h;have aE:=mk0 H;clear H;go_enter Tryz.func10,Tryz.ntmps10;go_upto_region 1 with((refine gds 1 ?_;(try(refine qg (by rfl) ?_;dsimp only));refine bxe 1 (cs:=#[.string L, .slice ab G.length ae, .slice ag I.length af]) (t:=25) ?_;intro ai hg w3 aB hb;have D:=mk0 aB;have a1:=glh hg HB;replace HB:=bsh HB hb;clear hb aB hg))
 (try simp only[Act.put,List.setIfInBounds_toArray,List.set_cons_zero,List.set_cons_succ]);go_cut [26] (fun a3 wc=>∃(kq:Nat) (am:Bool),a3= .bool am∧eD (eu.j0 kq am L G I=some (r1,r2))∧eD (kq≤k)∧eD (wc.heap[ai]?=some (.cells #[.string L,(.slice ab G.length ae),(.slice ag I.length af)] 25 (0,0)))∧eD (Below w.heap.size w wc))
 case first=>
  have H:=aE.out;clear aE;replace H:=ic H;rcases H with⟨c4,H⟩|⟨c4,H⟩
  ·have an:=beq_iff_eq.mpr c4;have aZ:=bne_eq_false_iff_eq.mpr c4;clear c4;(first|rw[an]|(simp only[kZ,qY];rw[an])|skip);have H':=mk0 H;clear H;obtain⟨_,_,_,_,_,_⟩:=qc D.out;go_wp2;go_meet;case rel=>exact⟨_,(true),qr,H',ql,bka D,hba HB⟩
  have an:=beq_eq_false_iff_ne.mpr c4;have aZ:=bne_iff_ne.mpr c4;have a5:¬(G=[]):=fun h_=>c4 (by rw[h_];rfl);(first|rw[an]|(simp only[kZ,qY];rw[an])|skip);replace H:=ic H;rcases H with⟨c6,H⟩|⟨c6,H⟩
  ·have aS:decide (60<(G.length:Int))=true:=decide_eq_true c6;have a0:decide (60<G.length)=true:=decide_eq_true (by omega);clear c6;have H':=mk0 H;clear H;obtain⟨_,_,_,_,_,_⟩:=qc D.out;go_wp2;go_meet;case rel=>exact⟨_,(true),qr,H',ql,bka D,hba HB⟩
  have aS:decide (60<(G.length:Int))=false:=decide_eq_false c6;have a0:decide (60<G.length)=false:=decide_eq_false (by omega);clear c6;have H':=mk0 H;clear H;obtain⟨_,_,_,_,_,_⟩:=qc D.out;go_wp2;go_meet;case rel=>exact⟨_,(decide ((I.length:Int)>90)),qr,H',ql,bka D,hba HB⟩
 case rest=>
  clear aE;obtain⟨kq,am,rfl,HA,HJ1,D,HB⟩:=hcut;cases kq with
  |zero=>exact absurd HA.out (by simp[eu.j0])
  |succ kj1=>
   have H:=HA.out;clear HA;simp only[eu.j0]at H;by_cases c9:am=true
   ·subst c9;(have H1:(some (0,15))=some (r1,r2):=by rw[if_pos rfl]at H;exact H);clear H;have H:=H1;clear H1;obtain⟨rfl,rfl⟩:=sj2 H;clear H;go_wp2;go_ret2;exact⟨qe,bok HB.out⟩
   replace c9:=Bool.eq_false_iff.mpr c9;subst c9;(have H1:(eu.l0 kj1 1 L G I)=some (r1,r2):=by rw[if_neg (show ¬(false=true) by decide)]at H;exact H);clear H;have H:=H1;clear H1;have H':=mk0 H;clear H;go_wp2;go_loopg [4] kj1 (fun kq v4 w'=>∃(aj:Int),v4= .int .i64 aj∧eD (eu.l0 kq aj L G I=some (r1,r2))∧eD (kq≤kj1)∧eD (w'.heap[ai]?=some (.cells #[.string L,(.slice ab G.length ae),(.slice ag I.length af)] 25 (0,0)))∧eD (Below w.heap.size w w'));case atStart=>exact⟨(1),qr,H',⟨Nat.le_refl _⟩,bka D,hba HB⟩
   case round=>
    clear H';obtain⟨aj,rfl,HA,HK2,D,HB⟩:=hrel;cases gk with
    |zero=>exact absurd HA.out (by simp[eu.l0])
    |succ k2=>
     have H:=HA.out;clear HA;simp only[eu.l0]at H;replace H:=ic H;rcases H with⟨c10,H⟩|⟨c10,H⟩
     ·have aO:=decide_eq_true c10;clear c10;replace H:=bsm H;obtain⟨aA,aX,H⟩:=H;replace H:=ic H;rcases H with⟨ao,H⟩|⟨ao,H⟩
      ·have aJ:=beq_iff_eq.mpr ao;have aQ:=bne_eq_false_iff_eq.mpr ao;clear ao;have H':=mk0 H;clear H;obtain⟨_,_,_,_,_,_⟩:=qc D.out;go_wp2_with((refine gcl 28 (some 36) ?_;refine gca Tryz.func28 (iZ.calls k2 L _ _ G _ _ I aj aA _ (cok X HB) Y.out (cok U HB) Z.out aX.out) ?_;rintro e bi⟨rfl,hb⟩;refine⟨_,rfl,?_⟩;replace D:=bkh D hb;replace HB:=bsh HB hb;(try clear hb)));go_roundg k2;(case measure=>have:=HJ1.out;have:=HK2.out;omega);case rel=>exact⟨(wrap64 (aj+1)),qr,H',⟨by have:=HJ1.out;have:=HK2.out;omega⟩,bka D,hba HB⟩
      have aJ:=beq_eq_false_iff_ne.mpr ao;have aQ:=bne_iff_ne.mpr ao;obtain⟨rfl,rfl⟩:=sj2 H;clear H;obtain⟨_,_,_,_,_,_⟩:=qc D.out;go_wp2_with((refine gcl 28 (some 36) ?_;refine gca Tryz.func28 (iZ.calls k2 L _ _ G _ _ I aj aA _ (cok X HB) Y.out (cok U HB) Z.out aX.out) ?_;rintro e bh⟨rfl,hb⟩;refine⟨_,rfl,?_⟩;replace D:=bkh D hb;replace HB:=bsh HB hb;(try clear hb)));go_ret2;exact⟨qe,bok HB.out⟩
     have aO:=decide_eq_false c10;clear c10;have H':=mk0 H;clear H;obtain⟨_,_,_,_,_,_⟩:=qc D.out;go_wp2;go_loopg [6] k2 (fun kq v6 w'=>∃(al:Int),v6= .int .i64 al∧eD (eu.l1 kq al L G I=some (r1,r2))∧eD (kq≤k2)∧eD (w'.heap[ai]?=some (.cells #[.string L,(.slice ab G.length ae),(.slice ag I.length af)] 25 (0,0)))∧eD (Below w.heap.size w w'));case atStart=>exact⟨(1),qr,H',⟨Nat.le_refl _⟩,bka D,hba HB⟩
     case round=>
      clear H';obtain⟨al,rfl,HA,HK3,D,HB⟩:=hrel;cases gk with
      |zero=>exact absurd HA.out (by simp[eu.l1])
      |succ k3=>
       have H:=HA.out;clear HA;simp only[eu.l1]at H;replace H:=ic H;rcases H with⟨av,H⟩|⟨av,H⟩
       ·have aN:=decide_eq_true av;clear av;replace H:=bsm H;obtain⟨aC,aU,H⟩:=H;replace H:=ic H;rcases H with⟨aq,H⟩|⟨aq,H⟩
        ·have aM:=beq_iff_eq.mpr aq;have aG:=bne_eq_false_iff_eq.mpr aq;clear aq;have H':=mk0 H;clear H;obtain⟨_,_,_,_,_,_⟩:=qc D.out;go_wp2_with((refine gcl 29 (some 50) ?_;refine gca Tryz.func29 (iU.calls k3 L _ _ G _ _ I al aC _ (cok X HB) Y.out (cok U HB) Z.out aU.out) ?_;rintro e bl⟨rfl,hb⟩;refine⟨_,rfl,?_⟩;replace D:=bkh D hb;replace HB:=bsh HB hb;(try clear hb)));go_roundg k3;(case measure=>have:=HJ1.out;have:=HK2.out;have:=HK3.out;omega);case rel=>exact⟨(wrap64 (al+1)),qr,H',⟨by have:=HJ1.out;have:=HK2.out;have:=HK3.out;omega⟩,bka D,hba HB⟩
        have aM:=beq_eq_false_iff_ne.mpr aq;have aG:=bne_iff_ne.mpr aq;obtain⟨rfl,rfl⟩:=sj2 H;clear H;obtain⟨_,_,_,_,_,_⟩:=qc D.out;go_wp2_with((refine gcl 29 (some 50) ?_;refine gca Tryz.func29 (iU.calls k3 L _ _ G _ _ I al aC _ (cok X HB) Y.out (cok U HB) Z.out aU.out) ?_;rintro e a6⟨rfl,hb⟩;refine⟨_,rfl,?_⟩;replace D:=bkh D hb;replace HB:=bsh HB hb;(try clear hb)));go_ret2;exact⟨qe,bok HB.out⟩
       have aN:=decide_eq_false av;clear av;have H':=mk0 H;clear H;obtain⟨_,_,_,_,_,_⟩:=qc D.out;go_wp2;go_loopg [8] k3 (fun kq v8 w'=>∃(ak:Int),v8= .int .i64 ak∧eD (eu.l2 kq ak L G I=some (r1,r2))∧eD (kq≤k3)∧eD (w'.heap[ai]?=some (.cells #[.string L,(.slice ab G.length ae),(.slice ag I.length af)] 25 (0,0)))∧eD (Below w.heap.size w w'));case atStart=>exact⟨(1),qr,H',⟨Nat.le_refl _⟩,bka D,hba HB⟩
       case round=>
        clear H';obtain⟨ak,rfl,HA,HK4,D,HB⟩:=hrel;cases gk with
        |zero=>exact absurd HA.out (by simp[eu.l2])
        |succ k4=>
         have H:=HA.out;clear HA;simp only[eu.l2]at H;replace H:=ic H;rcases H with⟨au,H⟩|⟨au,H⟩
         ·have aH:=decide_eq_true au;clear au;replace H:=bsm H;obtain⟨_,aV,H⟩:=H;replace H:=icb H;rcases H with⟨rfl,H⟩|⟨rfl,H⟩
          ·have H':=mk0 H;clear H;obtain⟨_,_,_,_,_,_⟩:=qc D.out;go_wp2_with((refine gcl 30 (some 64) ?_;refine gca Tryz.func30 (ig.calls k4 L _ _ G _ _ I ak true _ (cok X HB) Y.out (cok U HB) Z.out aV.out) ?_;rintro e bj⟨rfl,hb⟩;refine⟨_,rfl,?_⟩;replace D:=bkh D hb;replace HB:=bsh HB hb;(try clear hb)));go_roundg k4;(case measure=>have:=HJ1.out;have:=HK2.out;have:=HK3.out;have:=HK4.out;omega);case rel=>exact⟨(wrap64 (ak+1)),qr,H',⟨by have:=HJ1.out;have:=HK2.out;have:=HK3.out;have:=HK4.out;omega⟩,bka D,hba HB⟩
          obtain⟨rfl,rfl⟩:=sj2 H;clear H;obtain⟨_,_,_,_,_,_⟩:=qc D.out;go_wp2_with((refine gcl 30 (some 64) ?_;refine gca Tryz.func30 (ig.calls k4 L _ _ G _ _ I ak false _ (cok X HB) Y.out (cok U HB) Z.out aV.out) ?_;rintro e bk⟨rfl,hb⟩;refine⟨_,rfl,?_⟩;replace D:=bkh D hb;replace HB:=bsh HB hb;(try clear hb)));go_ret2;exact⟨qe,bok HB.out⟩
         have aH:=decide_eq_false au;clear au;have H':=mk0 H;clear H;obtain⟨_,_,_,_,_,_⟩:=qc D.out;go_wp2;go_loopg [9] k4 (fun kq v9 w'=>∃(aa:Int),v9= .int .i64 aa∧eD (eu.l3 kq aa L G I=some (r1,r2))∧eD (kq≤k4)∧eD (w'.heap[ai]?=some (.cells #[.string L,(.slice ab G.length ae),(.slice ag I.length af)] 25 (0,0)))∧eD (Below w.heap.size w w'));case atStart=>exact⟨(0),qr,H',⟨Nat.le_refl _⟩,bka D,hba HB⟩
         case round=>
          clear H';obtain⟨aa,rfl,HA,HK5,D,HB⟩:=hrel;cases gk with
          |zero=>exact absurd HA.out (by simp[eu.l3])
          |succ k5=>
           have H:=HA.out;clear HA;simp only[eu.l3]at H;replace H:=ic H;rcases H with⟨aw,H⟩|⟨aw,H⟩
           ·have aK:=decide_eq_true aw;clear aw;replace H:=ic H;rcases H with⟨ap,H⟩|⟨ap,H⟩
            ·have aL:=beq_iff_eq.mpr ap;have aR:=bne_eq_false_iff_eq.mpr ap;clear ap;replace H:=bsm H;obtain⟨_,aY,H⟩:=H;replace H:=icb H;rcases H with⟨rfl,H⟩|⟨rfl,H⟩
             ·have H':=mk0 H;clear H;obtain⟨_,_,_,_,_,_⟩:=qc D.out;go_wp2_with((go_at_call 32;refine(iG.calls k5 L _ _ G _ _ I aa true _ (cok X HB) Y.out (cok U HB) Z.out aY.out).mono ?_;rintro e a9⟨rfl,hb⟩;replace D:=bkh D hb;replace HB:=bsh HB hb;(try clear hb)));go_roundg k5;(case measure=>have:=HJ1.out;have:=HK2.out;have:=HK3.out;have:=HK4.out;have:=HK5.out;omega);case rel=>exact⟨(wrap64 (aa+1)),qr,H',⟨by have:=HJ1.out;have:=HK2.out;have:=HK3.out;have:=HK4.out;have:=HK5.out;omega⟩,bka D,hba HB⟩
             obtain⟨rfl,rfl⟩:=sj2 H;clear H;obtain⟨_,_,_,_,_,_⟩:=qc D.out;go_wp2_with((go_at_call 32;refine(iG.calls k5 L _ _ G _ _ I aa false _ (cok X HB) Y.out (cok U HB) Z.out aY.out).mono ?_;rintro e a7⟨rfl,hb⟩;replace D:=bkh D hb;replace HB:=bsh HB hb;(try clear hb)));go_ret2;exact⟨qe,bok HB.out⟩
            have aL:=beq_eq_false_iff_ne.mpr ap;have aR:=bne_iff_ne.mpr ap;replace H:=bsm H;obtain⟨_,aI,H⟩:=H;replace H:=icb H;rcases H with⟨rfl,H⟩|⟨rfl,H⟩
            ·replace H:=bsm H;obtain⟨_,aT,H⟩:=H;replace H:=icb H;rcases H with⟨rfl,H⟩|⟨rfl,H⟩
             ·have H':=mk0 H;clear H;obtain⟨_,_,_,_,_,_⟩:=qc D.out;go_wp2_with(first|(go_at_call 31;refine(kV.calls L _ _ G _ _ I aa true _ (cok X HB) Y.out (cok U HB) Z.out aI.out).mono ?_;rintro e ba⟨rfl,hb⟩;replace D:=bkh D hb;replace HB:=bsh HB hb;(try clear hb);obtain⟨_,_,_,_,_,_⟩:=qc D.out)|(go_at_call 32;refine(iG.calls k5 L _ _ G _ _ I aa true _ (cok X HB) Y.out (cok U HB) Z.out aT.out).mono ?_;rintro e be⟨rfl,hb⟩;replace D:=bkh D hb;replace HB:=bsh HB hb;(try clear hb)));go_roundg k5;(case measure=>have:=HJ1.out;have:=HK2.out;have:=HK3.out;have:=HK4.out;have:=HK5.out;omega);case rel=>exact⟨(wrap64 (aa+1)),qr,H',⟨by have:=HJ1.out;have:=HK2.out;have:=HK3.out;have:=HK4.out;have:=HK5.out;omega⟩,bka D,hba HB⟩
             obtain⟨rfl,rfl⟩:=sj2 H;clear H;obtain⟨_,_,_,_,_,_⟩:=qc D.out;go_wp2_with(first|(go_at_call 31;refine(kV.calls L _ _ G _ _ I aa true _ (cok X HB) Y.out (cok U HB) Z.out aI.out).mono ?_;rintro e bf⟨rfl,hb⟩;replace D:=bkh D hb;replace HB:=bsh HB hb;(try clear hb);obtain⟨_,_,_,_,_,_⟩:=qc D.out)|(go_at_call 32;refine(iG.calls k5 L _ _ G _ _ I aa false _ (cok X HB) Y.out (cok U HB) Z.out aT.out).mono ?_;rintro e bd⟨rfl,hb⟩;replace D:=bkh D hb;replace HB:=bsh HB hb;(try clear hb)));go_ret2;exact⟨qe,bok HB.out⟩
            have H':=mk0 H;clear H;obtain⟨_,_,_,_,_,_⟩:=qc D.out;go_wp2_with((go_at_call 31;refine(kV.calls L _ _ G _ _ I aa false _ (cok X HB) Y.out (cok U HB) Z.out aI.out).mono ?_;rintro e a8⟨rfl,hb⟩;replace D:=bkh D hb;replace HB:=bsh HB hb;(try clear hb)));go_roundg k5;(case measure=>have:=HJ1.out;have:=HK2.out;have:=HK3.out;have:=HK4.out;have:=HK5.out;omega);case rel=>exact⟨(wrap64 (aa+1)),qr,H',⟨by have:=HJ1.out;have:=HK2.out;have:=HK3.out;have:=HK4.out;have:=HK5.out;omega⟩,bka D,hba HB⟩
           have aK:=decide_eq_false aw;clear aw;have H':=mk0 H;clear H;obtain⟨_,_,_,_,_,_⟩:=qc D.out;go_wp2;go_loopg [10] k5 (fun kq a2 w'=>∃(ah:Int),a2= .int .i64 ah∧eD (eu.l4 kq ah L G I=some (r1,r2))∧eD (kq≤k5)∧eD (w'.heap[ai]?=some (.cells #[.string L,(.slice ab G.length ae),(.slice ag I.length af)] 25 (0,0)))∧eD (Below w.heap.size w w'));case atStart=>exact⟨(1),qr,H',⟨Nat.le_refl _⟩,bka D,hba HB⟩
           case round=>
            clear H';obtain⟨ah,rfl,HA,HK6,D,HB⟩:=hrel;cases gk with
            |zero=>exact absurd HA.out (by simp[eu.l4])
            |succ k6=>
             have H:=HA.out;clear HA;simp only[eu.l4]at H;replace H:=icd H;rcases H with⟨aF,H⟩|⟨aF,H⟩
             ·replace H:=bsm H;obtain⟨aD,aW,H⟩:=H;replace H:=icg H;rcases H with⟨aP,H⟩|⟨aP,H⟩
              ·obtain⟨rfl,rfl⟩:=sj2 H;clear H;obtain⟨_,_,_,_,_,_⟩:=qc D.out;go_wp2_with((refine gcl 33 (some 97) ?_;refine gca Tryz.func33 (iI.calls k6 L _ _ G _ _ I ah aD _ (cok X HB) Y.out (cok U HB) Z.out aW.out) ?_;rintro e bc⟨rfl,hb⟩;refine⟨_,rfl,?_⟩;replace D:=bkh D hb;replace HB:=bsh HB hb;(try clear hb)));go_ret2;exact⟨qe,bok HB.out⟩
              have H':=mk0 H;clear H;obtain⟨_,_,_,_,_,_⟩:=qc D.out;go_wp2_with((refine gcl 33 (some 97) ?_;refine gca Tryz.func33 (iI.calls k6 L _ _ G _ _ I ah aD _ (cok X HB) Y.out (cok U HB) Z.out aW.out) ?_;rintro e bb⟨rfl,hb⟩;refine⟨_,rfl,?_⟩;replace D:=bkh D hb;replace HB:=bsh HB hb;(try clear hb)));go_roundg k6;(case measure=>have:=HJ1.out;have:=HK2.out;have:=HK3.out;have:=HK4.out;have:=HK5.out;have:=HK6.out;omega);case rel=>exact⟨(wrap64 (ah+1)),qr,H',⟨by have:=HJ1.out;have:=HK2.out;have:=HK3.out;have:=HK4.out;have:=HK5.out;have:=HK6.out;omega⟩,bka D,hba HB⟩
             obtain⟨rfl,rfl⟩:=sj2 H;clear H;obtain⟨_,_,_,_,_,_⟩:=qc D.out;go_wp2;go_ret2;exact⟨qe,bok HB.out⟩
end Go.Proofs.Y
