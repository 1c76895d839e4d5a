/- graph.Inside (and graph.which, at a node's scope), walked. -/
import Derived.Test.YtcaegaljhogbjaaGreatDoorGraphSpec
set_option linter.unusedSimpArgs false
set_option linter.unusedVariables false
set_option maxHeartbeats 8000000
set_option maxRecDepth 100000
namespace Go.Proofs.Gr
open RowKit Lib Go.Sort PW PL PM Y Gd
theorem L8(w:World)(o1:Obj)(cs:Obj){x:Value}{t:TypeId}(D:cs= .cells #[x] t (0,0):=by rfl):Below w.heap.size w ((w.alloc o1).alloc cs)∧((w.alloc o1).alloc cs).cell? ⟨w.heap.size+1,0,none⟩=some x∧w.heap.size≤((w.alloc o1).alloc cs).heap.size:=by
  have e:(w.alloc o1).heap.size=w.heap.size+1:=by simp
  refine⟨eX (eX (Below.refl _ _) _) _,?_,by simp;omega⟩;rw[←e];subst D;exact(iF (qF (w.alloc o1) _) 0).trans rfl
theorem Bv(x:S38)(a:Int)(b:Nat)(w:World)(G:w.cell? ⟨b,0,none⟩=some (.int .i64 a)):
    Calls Tryz.prog 37 #[.agg #[.int .i64 x.f0, .int .i64 x.f1, .int .i64 x.f2, .int .i64 x.f3, .string x.f4], .pointer (some ⟨b,0,none⟩)] w fun e w'=>e= .returned (.bool (x.f1==a))∧Below w.heap.size w w':=by
  have D:=World.block_lt_of_cell? w _ G;have I:b≠w.heap.size:=Nat.ne_of_lt D;obtain⟨f0,f1,f2,f3,f4⟩:=x;go_enter Tryz.func37,Tryz.ntmps37;go_wp2;go_ret;exact⟨rfl,eX (Below.refl _ _) _⟩
theorem CV (k:Nat) (s:ByteArray) (l2:List S40) (A1:Option Addr) (c1:Nat) (l1:List S38) (b:Nat) (X:Int) (r:List Int) (w:World)
    (Z:Kd.C k38 w A1 l1.length l1) (Y:w.cell? ⟨b,0,none⟩=some (.int .i64 X)) (h:iE.l0 k X [] 0 s l1 l2=some r):
    Calls Tryz.prog 36 #[.slice A1 l1.length c1, .func (.func 37) #[] #[.pointer (some ⟨b,0,none⟩)]] w fun e w'=>∃v0:Value,e= .returned v0∧Kd.R (Kd.int .i64) 3 w' w.heap.size (fun _=>True) v0 r∧Below w.heap.size w w':=by
  have HC:=mk0 Z;have L:=mk0 Y;have G:=mk0 h;clear Z Y h;have HB:=mk0 (Below.refl w.heap.size w);go_enter Tryz.func36,Tryz.ntmps36;go_wp2_with fail;go_loopg [5,10] k (fun kq v5 af wr=>∃(xs:List Int) (i:Int),af= .int .i64 i∧eD (iE.l0 kq X xs i s l1 l2=some r)∧eD (kq≤k)∧eD (Kd.R (Kd.int .i64) 3 wr w.heap.size (fun _=>True) v5 xs)∧eD (Below w.heap.size w wr));case atStart=>exact⟨[],0,rfl,G,⟨Nat.le_refl _⟩,⟨Kd.sO _ _ _ _ _⟩,HB⟩
  case round=>
    clear G;obtain⟨xs,i,rfl,HA,HK1,I,HB⟩:=hrel;cases gk with
    |zero=>exact absurd HA.out (by simp[iE.l0])
    |succ k1=>
      have H:=HA.out;clear HA;simp only[iE.l0]at H;by_cases c4:i<(l1.length:Int)
      · rw[if_pos c4]at H
        have aa:decide (i<(l1.length:Int))=true:=decide_eq_true c4;by_cases c5:0≤i
        · rw[if_pos c5]at H
          obtain⟨_,rfl,e0,e1,e2,e3,e4⟩:=tH (Kd.iT HC.out HB.out) i c5 c4;replace c4:=eq_true c4;replace c5:=eq_true c5;generalize iH l1 i=x at*;have ag:=L.out;have HD:=mk0 (fun W (hW:Below wr.heap.size wr W)=>Bv x X b W ((hW.cell (by have:=World.block_lt_of_cell? w _ L.out;have:=HB.out.size;omega)).trans ((HB.out.cell (World.block_lt_of_cell? w _ L.out)).trans L.out)));clear ag;have G:=H;clear H;obtain⟨_,f1,_,_,_⟩:=x;dsimp only at e0 e1 e2 e3 e4 HD G;by_cases c6:f1=X
          · rw[if_pos c6]at G
            have ab:(f1==X)=true:=beq_iff_eq.mpr c6;by_cases c7:xs.length<17592186044416
            · rw[if_pos c7]at G
              have LM:=mk0 c7;have HH:=mk0 G;clear c7 G c6;go_wp2_with(first|(go_at_call 37;(with_reducible refine(HD.out _ (eX (Below.refl _ _) _)).mono ?_);rintro e w3⟨rfl,D⟩;have U:=mk0 (kg (eX HB.out _) D);have n1:=mk0 (Kd.qJ (Kd.qh I.out _) D);clear HB I;have HB:=U;have I:=n1;clear U n1 D)|((with_reducible refine kW (b:= .append) (xs:=#[.tmp 18, .tmp 21]) rfl ?_);at_builtin;refine Kd.rF (Kd.int .i64) (w0:=w) w.heap.size rfl (.tmp 18) (.tmp 21) 36 3 (.int .i64 0) 8 rfl Tryz.underlying36 info3 rfl (by decide) (by omega) u5 xs (wrap64 (i+1)) [.int .i64 (wrap64 (i+1))] (fun _=>True) (fun _=>False) rfl rfl ?aP (fun _ hk=>hk.elim) ?aF ?aO ?aB ?aS ?aL ?_;(case aP=>exact rfl);(case aB=>exact(by repeat(first|exact HB.out|apply eX|apply eP|apply eZ)));(case aF=>exact(fun _ _=>trivial));(case aO=>exact(by(with_reducible repeat(first|apply Kd.qh|apply Kd.qx|apply Kd.qG));exact I.out));(case aS=>exact(kN (by repeat(first|exact HB.out|apply eX|apply eP|apply eZ))));(case aL=>have:=LM.out;omega);intro v9 w9 ho Y hg ae;have U:=mk0 Y;have n1:=mk0 ho;clear HB I;have HB:=U;have I:=n1;clear U n1 ho Y hg ae));go_roundg k1;(case measure=>have:=HK1.out;omega);case rel=>exact⟨xs++[wrap64 (i+1)],wrap64 (i+1),rfl,HH,⟨by have:=HK1.out;omega⟩,I,HB⟩
            · rw[if_neg c7]at G
              cases G
          · rw[if_neg c6]at G
            have ab:(f1==X)=false:=beq_eq_false_iff_ne.mpr c6;have HH:=mk0 G;clear G c6;go_wp2_with(first|(go_at_call 37;(with_reducible refine(HD.out _ (eX (Below.refl _ _) _)).mono ?_);rintro e w3⟨rfl,D⟩;have U:=mk0 (kg (eX HB.out _) D);have n1:=mk0 (Kd.qJ (Kd.qh I.out _) D);clear HB I;have HB:=U;have I:=n1;clear U n1 D));go_roundg k1;(case measure=>have:=HK1.out;omega);case rel=>exact⟨xs,wrap64 (i+1),rfl,HH,⟨by have:=HK1.out;omega⟩,I,HB⟩
        · rw[if_neg c5]at H
          exact absurd H (by simp)
      · rw[if_neg c4]at H
        have aa:decide (i<(l1.length:Int))=false:=decide_eq_false c4;obtain rfl:=Option.some.inj H;clear H;go_wp2;go_ret;exact⟨_,rfl,I.out,HB.out⟩
def uR.f(k:Nat)(G:ByteArray)(I:List S38)(D:List S40)(L:Int):Option (List Int):=iE.f k G I D L
theorem uR.calls(k:Nat)(I:ByteArray)(L:Option Addr)(U:Nat)(D:List (S38))(Y:Option Addr)(X:Nat)(G:List (S40))(a1:Int)(r:List Int)(w:World)(Z:Kd.C k38 w L D.length D)(ab:D.length≤U)(ae:Kd.C k40 w Y G.length G)(aa:G.length≤X)(h:uR.f k I D G a1=some r):
    Calls Tryz.prog 14 #[.agg #[.string I, .slice L D.length U, .slice Y G.length X], .int .i64 a1] w fun e w'=>∃af:Value,e= .returned (af)∧Kd.R (Kd.int .i64) 3 w' w.heap.size (fun _=>True) af r∧Below w.heap.size w w':=by
  have HC:=mk0 Z;have HH:=mk0 (show iE.l0 k a1 [] 0 I D G=some r from h);clear Z ab ae aa h;go_enter Tryz.func14,Tryz.ntmps14;go_wp2_with fail;have HW:=mk0 (L8 w (.cells #[.string I, .slice L D.length U, .slice Y G.length X] 25) (.cells #[.int .i64 a1] 3));refine(CV k I G L U D (w.heap.size+1) a1 r _ (Kd.iT HC.out (HW.out.1.mono (Nat.le_refl _))) HW.out.2.1 HH.out).mono ?_;rintro e w3⟨_,rfl,hr,hb⟩;have HR:=mk0 (Kd.uW hr HW.out.2.2);have HB:=mk0 (kg HW.out.1 hb);clear hr hb;go_wp2;go_ret;exact⟨_,rfl,HR.out,HB.out⟩
end Go.Proofs.Gr
namespace Go.Proofs.Z
open Ext B Q Y RowKit PW PL PM
attribute [local go_sem] qI qH qV qW qz qA qM qL
open Gr
def kQ.l0:Nat→Int→Int→List Int→Int→Int→ByteArray→List (S38)→List (S40)→Int→Int→Option (Bool)
 |0,_,_,_,_,_,_,_,_,_,_=>none
 |k+1,x5,x6,x12,x13,x14,x130000,x130001,x130002,x130003,x130004=>if x14<x13 then(if 0≤x14 then(if x14<(x12.length:Int)then(if 0≤(wrap64 ((rd x12 x14)-1))then(if(wrap64 ((rd x12 x14)-1))<(x130001.length:Int)then(if((iH x130001 (wrap64 ((rd x12 x14)-1))).f0)=1 then(kQ.l0 k (wrap64 (x5+1)) x6 x12 x13 (wrap64 (x14+1)) x130000 x130001 x130002 x130003 x130004)else(if((iH x130001 (wrap64 ((rd x12 x14)-1))).f0)=2 then(kQ.l0 k x5 (wrap64 (x6+1)) x12 x13 (wrap64 (x14+1)) x130000 x130001 x130002 x130003 x130004)else(kQ.l0 k x5 x6 x12 x13 (wrap64 (x14+1)) x130000 x130001 x130002 x130003 x130004)))else(none))else(none))else(none))else(none))else(if x5=1 then(some (x6==1))else(some false))
def kQ.f(k:Nat)(G:ByteArray)(L:List (S38))(D:List (S40))(U:Int)(X:Int)(Y:Int):Option (Bool):=(uR.f k G L D Y).bind fun I=>(kQ.l0 k 0 0 I (I.length:Int) 0 G L D U X)
theorem kQ.calls(k:Nat)(Z:ByteArray)(ar:Option Addr)(au:Nat)(L:List (S38))(aw:Option Addr)(av:Nat)(U:List (S40))(ag:Int)(af:Int)(a1:Int)(r:Bool)(w:World)(aB:Kd.C k38 w ar L.length L)(aG:L.length≤au)(aD:Kd.C k40 w aw U.length U)(aA:U.length≤av)(h:kQ.f k Z L U ag af a1=some r):
  Calls Tryz.prog 26 #[.agg #[.string Z, .slice ar L.length au, .slice aw U.length av, .map (some ag.toNat), .map (some af.toNat)], .int .i64 a1] w fun e w'=>e= .returned (.bool r)∧Below w.heap.size w w':=by
 have a4:=Tryz.underlying53;have a3:=Tryz.underlying25;have ai:=mk0 aB;have aR:=mk0 aG;clear aB aG;have aN:=mk0 aD;have aT:=mk0 aA;clear aD aA;have HB:=mk0 (Below.refl w.heap.size w);unfold kQ.f at h;have H:=h;clear h;replace H:=bsm H;obtain⟨G,A3,H⟩:=H;have H':=mk0 H;clear H;go_enter Tryz.func26,Tryz.ntmps26;go_wp2_with(first|(refine bxe 2 (cs:=#[.string Z, .slice ar L.length au, .slice aw U.length av, .map (some ag.toNat), .map (some af.toNat)]) (t:=53) ?_;intro aP hg w4 aJ hb;have I:=mk0 aJ;have a0:=glh hg HB;replace HB:=bsh HB hb;clear hb aJ hg;obtain⟨_,_,_,_,_,_,_,_,_,_⟩:=wm I.out)|(refine gcl 14 (some 12) ?_;refine gca Tryz.func14 (uR.calls k Z _ _ L _ _ U a1 G _ (cok ai HB) aR.out (cok aN HB) aT.out A3.out) ?_;rintro e w6⟨_,rfl,aU,hb⟩;refine⟨_,rfl,?_⟩;have aC:=rlh aU HB;replace I:=bkh I hb;replace HB:=bsh HB hb;(try clear hb);(try clear aU);obtain⟨aY,a2,aZ⟩:=Kd.qw aC.out;subst aZ));go_loopg [5,6,14] k (fun kq v5 v6 aX w'=>∃(aa:Int) (ab:Int) (D:Int),v5= .int .i64 aa∧v6= .int .i64 ab∧aX= .int .i64 D∧eD (kQ.l0 kq aa ab G (G.length:Int) D Z L U ag af=some r)∧eD (kq≤k)∧eD (Kd.R (Kd.int .i64) 3 w' w.heap.size (fun _=>True) (.slice aY G.length a2) G)∧eD (w'.heap[aP]?=some (.cells #[.string Z,(.slice ar L.length au),(.slice aw U.length av), .map (some ag.toNat), .map (some af.toNat)] 53 (0,0)))∧eD (Below w.heap.size w w'));case atStart=>exact⟨(0),(0),(0),qr,qr,qr,H',⟨Nat.le_refl _⟩,rka aC,bka I,hba HB⟩
 case round=>
  clear H';obtain⟨aa,ab,D,rfl,rfl,rfl,HA,HK1,ae,I,HB⟩:=hrel;cases gk with
  |zero=>exact absurd HA.out (by simp[kQ.l0])
  |succ k1=>
   have H:=HA.out;clear HA;simp only[kQ.l0]at H;replace H:=icd H;rcases H with⟨aV,H⟩|⟨aV,H⟩
   ·replace H:=idp H;obtain⟨_,H⟩:=H;replace H:=idp H;obtain⟨_,H⟩:=H;(obtain⟨ah,aq⟩:∃j_:Int,(wrap64 ((rd G D)-1))=j_:=⟨_,rfl⟩);(replace H:(if 0≤(ah)then(if(ah)<(L.length:Int)then(if((iH L (ah)).f0)=1 then(kQ.l0 k1 (wrap64 (aa+1)) ab G (G.length:Int) (wrap64 (D+1)) Z L U ag af)else(if((iH L (ah)).f0)=2 then(kQ.l0 k1 aa (wrap64 (ab+1)) G (G.length:Int) (wrap64 (D+1)) Z L U ag af)else(kQ.l0 k1 aa ab G (G.length:Int) (wrap64 (D+1)) Z L U ag af)))else(none))else(none))=some r:=by first|(rw[aq]at H;exact H)|(simp only[aq]at H⊢;exact H));have aW:(IntKind.i64.wrap ((rd G D)-1))=ah:=(kZ _).trans aq;replace H:=idp H;obtain⟨_,H⟩:=H;replace H:=idp H;obtain⟨_,H⟩:=H;replace H:=ic H;rcases H with⟨ax,H⟩|⟨ax,H⟩
    ·have aK:=beq_iff_eq.mpr ax;have aO:=bne_eq_false_iff_eq.mpr ax;clear ax;have H':=mk0 H;clear H;have Y:0≤(D:Int):=of_decide_eq_true (by assumption);have X:D<(G.length:Int):=of_decide_eq_true (by assumption);obtain⟨aF,am,ao⟩:=Kd.tV (Kd.iY ae.out).2.2 D Y X;cases am;replace Y:=eq_true Y;replace X:=eq_true X;obtain⟨_,_,_,_,_,_,_,_,_,_⟩:=wm I.out;obtain⟨aE,rfl,ak,al,an,aj,ap,aH,aI⟩:=uD ai HB (ah);go_wp2;go_roundg k1;(case measure=>have:=HK1.out;omega);case rel=>exact⟨(wrap64 (aa+1)),(ab),(wrap64 (D+1)),qr,qr,qr,H',qk,rka ae,bka I,hba HB⟩
    have aK:=beq_eq_false_iff_ne.mpr ax;have aO:=bne_iff_ne.mpr ax;replace H:=ic H;rcases H with⟨az,H⟩|⟨az,H⟩
    ·have aM:=beq_iff_eq.mpr az;have aQ:=bne_eq_false_iff_eq.mpr az;clear az;have H':=mk0 H;clear H;have Y:0≤(D:Int):=of_decide_eq_true (by assumption);have X:D<(G.length:Int):=of_decide_eq_true (by assumption);obtain⟨aF,am,ao⟩:=Kd.tV (Kd.iY ae.out).2.2 D Y X;cases am;replace Y:=eq_true Y;replace X:=eq_true X;obtain⟨_,_,_,_,_,_,_,_,_,_⟩:=wm I.out;obtain⟨aE,rfl,ak,al,an,aj,ap,aH,aI⟩:=uD ai HB (ah);go_wp2;go_roundg k1;(case measure=>have:=HK1.out;omega);case rel=>exact⟨(aa),(wrap64 (ab+1)),(wrap64 (D+1)),qr,qr,qr,H',qk,rka ae,bka I,hba HB⟩
    have aM:=beq_eq_false_iff_ne.mpr az;have aQ:=bne_iff_ne.mpr az;have H':=mk0 H;clear H;have Y:0≤(D:Int):=of_decide_eq_true (by assumption);have X:D<(G.length:Int):=of_decide_eq_true (by assumption);obtain⟨aF,am,ao⟩:=Kd.tV (Kd.iY ae.out).2.2 D Y X;cases am;replace Y:=eq_true Y;replace X:=eq_true X;obtain⟨_,_,_,_,_,_,_,_,_,_⟩:=wm I.out;obtain⟨aE,rfl,ak,al,an,aj,ap,aH,aI⟩:=uD ai HB (ah);go_wp2;go_roundg k1;(case measure=>have:=HK1.out;omega);case rel=>exact⟨(aa),(ab),(wrap64 (D+1)),qr,qr,qr,H',qk,rka ae,bka I,hba HB⟩
   replace H:=ic H;rcases H with⟨ay,H⟩|⟨ay,H⟩
   ·have aS:=beq_iff_eq.mpr ay;have aL:=bne_eq_false_iff_eq.mpr ay;clear ay;obtain rfl:=Option.some.inj H;go_wp2;go_ret;exact⟨qe,bok HB.out⟩
   have aS:=beq_eq_false_iff_ne.mpr ay;have aL:=bne_iff_ne.mpr ay;obtain rfl:=Option.some.inj H;go_wp2;go_ret;exact⟨qe,bok HB.out⟩
end Go.Proofs.Z
