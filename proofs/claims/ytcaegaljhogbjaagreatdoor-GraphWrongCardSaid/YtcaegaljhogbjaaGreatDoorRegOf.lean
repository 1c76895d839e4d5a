/- The reference's walker: 'act'. -/
import Derived.Test.YtcaegaljhogbjaaGreatDoorRegBlock
import Derived.Test.YtcaegaljhogbjaaGreatDoorYx5
set_option linter.unusedSimpArgs false
set_option linter.unusedVariables false
set_option maxHeartbeats 8000000
set_option maxRecDepth 100000
namespace Go.Proofs.Ng
open RowKit Lib Go.Sort PW PL PM Y Gd Go.Proofs.Gr R
theorem Gg {w1:World} {B M:Nat} {s:ByteArray} {A1 A2:Option Addr} {c1 c2:Nat} {l1:List S38} {l2:List S40} (hd:Df w1 A1 c1 l1 A2 c2 l2) {k:Nat}
    (ih:∀j,j<k→Told w1 B M (.string s) (.slice A1 l1.length c1) (.slice A2 l2.length c2) l1 l2 j) (n d:Int) {W:Wk} {r:Int×Int×Wk} {wd:World} (h:Wt w1 B M (.string s) (.slice A1 l1.length c1) (.slice A2 l2.length c2) W wd) (hr:wk l1 l2 k (.act n d) W=some r):
    Calls Tryz.prog 113 #[.pointer (some ⟨B,0,none⟩), .int .i64 n, .int .i64 d] wd fun e w'=>e= .returned (.int .i64 r.1)∧Wt w1 B M (.string s) (.slice A1 l1.length c1) (.slice A2 l2.length c2) r.2.2 w'∧Kp wd w':=by
  cases k with
  |zero=>cases hr
  |succ j=>
  have HD:=mk0 hd;have HI:=mk0 (ih j (Nat.lt_succ_self j));have HT:=mk0 h;obtain⟨⟨q0,q1,q2⟩,_,_⟩:=h.cells;have bs:=mk0 (hd.below h.old);have a6:eD ((timers l1 n).length≤1000000):=⟨by have:=xS (fun x:S38=>decide (1≤n)&&x.f3==n&&(x.f0==8||x.f0==9)) l1 0;have:=hd.n1;unfold timers;omega⟩
  have bB:=mk0 (zm (l2:=l2) (n:=n));have a4:=h.len;unfold wk at hr
  split at hr
  case isFalse=>cases hr
  rename_i ka
  obtain⟨Wp,hp,ai⟩:=Option.bind_eq_some_iff.mp hr;obtain⟨x,hx,aj⟩:=Option.bind_eq_some_iff.mp ai;have bc:=mk0 a4;clear hd ih h hr ai a4;generalize bx:iC l1 n=kd at*;generalize a0:timers l1 n=ts at*;have HP:=mk0 hp;have i0:(0:Int)≤kd:=by omega
  have i1:kd<8:=by omega
  have bo:eD (#[Value.int .i64 0, .int .i64 0, .int .i64 0, .int .i64 2, .int .i64 3, .int .i64 0, .int .i64 0, .int .i64 4][kd.toNat]?=some (.int .i64 (Fg kd))):=⟨by rcases ka with rfl|rfl|rfl<;>rfl⟩
  clear hp;go_enter Tryz.func113,Tryz.ntmps113;go_upto_if 30 with(first|(go_at_call 48;(with_reducible refine(rA bs.out s n).mono ?_);rintro e w2⟨rfl,aH⟩;rw[bx];have aT:Below wd.heap.size wd (w2.alloc (.cells #[.int .i64 0, .int .i64 0, .int .i64 0, .int .i64 2, .int .i64 3, .int .i64 0, .int .i64 0, .int .i64 4] 3)):=kg aH (eX (Below.refl _ _) _);have bn:=mk0 (HT.out.below aT);have HK2:=mk0 (Kp.below aT);have bE:(w2.alloc (.cells #[.int .i64 0, .int .i64 0, .int .i64 0, .int .i64 2, .int .i64 3, .int .i64 0, .int .i64 0, .int .i64 4] 3)).cell? ⟨w2.heap.size,kd.toNat,none⟩=some (.int .i64 (Fg kd)):=(iF (qF w2 _) _).trans bo.out;clear aH aT)|(go_at_call 90;(with_reducible refine(kS _ n 0 d bn.out HP.out).mono ?_);rintro e w3⟨rfl,bj,bi⟩;have aU:=mk0 bj;have HK3:=mk0 (HK2.out.trans bi);clear bj bi))
  go_cut [] (fun wx=>∃WZ:Wk,eD ((beside (wk l1 l2 j) l1 l2 d ts 0 0 WZ).bind (fun b=>xO l1 l2 n W.l.length b)=some r)∧eD (Wt w1 B M (.string s) (.slice A1 l1.length c1) (.slice A2 l2.length c2) WZ wx)∧eD (Kp wd wx))
  case first=>
    by_cases k7:kd=7
    · have bq:(kd==7)=true:=beq_iff_eq.mpr k7
      rw[if_pos k7]at hx;obtain⟨q,aQ,aI⟩:=Option.bind_eq_some_iff.mp hx;have aY:=mk0 aQ;clear ka hx k7;by_cases he:q.2.2.e=0
      · have eb:(q.2.2.e==0)=true:=beq_iff_eq.mpr he
        by_cases ht:0<ts.length
        · have tb:decide ((0:Int)<(ts.length:Int))=true:=decide_eq_true (by omega)
          have bm:decide (0<ts.length)=true:=decide_eq_true ht;by_cases hs:wW q.2.2.l W.l.length=true
          · rw[if_neg (fun h=>by rw[hs]at h;cases h.2.2)]at aI
            cases aI;rw[if_neg (fun h=>by cases h)]at aj;have HR:=mk0 aj;have a9:=mk0 hs;clear he aj aQ ht hs;go_wp2_with(first|(go_at_call 66;(with_reducible refine(HI.out.sc aU.out aY.out).mono ?_);rintro e w4⟨rfl,aq,aD⟩;have aC:=mk0 aq;have HK4:=mk0 (HK3.out.trans aD);have aE:=mk0 (HD.out.below aq.old);obtain⟨⟨p0,p1,p2⟩,p5,_⟩:=aC.out.cells;clear aq aD)|(go_at_call 135;(with_reducible refine(vR aE.out s n).mono ?_);rintro e w5⟨v5,rfl,aA,aw⟩;rw[a0]at aA;obtain⟨A5,c5,rfl,_,_⟩:=aA.reads;have ae:=mk0 (aC.out.below aw);have HK5:=mk0 (HK4.out.trans (Kp.below aw));clear aw aA)|(go_at_call 136;(with_reducible refine(zY W.l.length ae.out bc.out).mono ?_);rintro e w6⟨rfl,rfl⟩;rw[a9.out]));go_meet;case rel=>exact⟨q.2.2,HR,ae,HK5⟩
          · have a8:wW q.2.2.l W.l.length=false:=by simpa using hs
            rw[if_pos ⟨he,ht,a8⟩]at aI;cases aI;rw[if_pos rfl]at aj;cases aj;have a9:=mk0 a8;clear he aQ ht hs a8;go_wp2_with(first|(go_at_call 66;(with_reducible refine(HI.out.sc aU.out aY.out).mono ?_);rintro e w4⟨rfl,aq,aD⟩;have aC:=mk0 aq;have HK4:=mk0 (HK3.out.trans aD);have aE:=mk0 (HD.out.below aq.old);obtain⟨⟨p0,p1,p2⟩,p5,_⟩:=aC.out.cells;clear aq aD)|(go_at_call 135;(with_reducible refine(vR aE.out s n).mono ?_);rintro e w5⟨v5,rfl,aA,aw⟩;rw[a0]at aA;obtain⟨A5,c5,rfl,_,_⟩:=aA.reads;have ae:=mk0 (aC.out.below aw);have HK5:=mk0 (HK4.out.trans (Kp.below aw));clear aw aA)|(go_at_call 136;(with_reducible refine(zY W.l.length ae.out bc.out).mono ?_);rintro e w6⟨rfl,rfl⟩;rw[a9.out])|(go_at_call 67;(with_reducible refine(qy 19 ae.out).mono ?_);rintro e wx⟨rfl,al,ak⟩;have U:=mk0 al;have HK7:=mk0 (HK5.out.trans ak);clear al ak));go_ret;exact⟨rfl,U.out,HK7.out⟩
        · have tb:decide ((0:Int)<(ts.length:Int))=false:=decide_eq_false (by omega)
          have bm:decide (0<ts.length)=false:=decide_eq_false ht;rw[if_neg (fun h=>ht h.2.1)]at aI;cases aI;rw[if_neg (fun h=>by cases h)]at aj;have HR:=mk0 aj;clear he aj aQ ht;go_wp2_with(first|(go_at_call 66;(with_reducible refine(HI.out.sc aU.out aY.out).mono ?_);rintro e w4⟨rfl,aq,aD⟩;have aC:=mk0 aq;have HK4:=mk0 (HK3.out.trans aD);have aE:=mk0 (HD.out.below aq.old);obtain⟨⟨p0,p1,p2⟩,p5,_⟩:=aC.out.cells;clear aq aD)|(go_at_call 135;(with_reducible refine(vR aE.out s n).mono ?_);rintro e w5⟨v5,rfl,aA,aw⟩;rw[a0]at aA;obtain⟨A5,c5,rfl,_,_⟩:=aA.reads;have ae:=mk0 (aC.out.below aw);have HK5:=mk0 (HK4.out.trans (Kp.below aw));clear aw aA));go_meet;case rel=>exact⟨q.2.2,HR,ae,HK5⟩
      · have eb:(q.2.2.e==0)=false:=beq_eq_false_iff_ne.mpr he
        rw[if_neg (fun h=>he h.1)]at aI;cases aI;rw[if_neg (fun h=>by cases h)]at aj;have HR:=mk0 aj;clear he aj aQ;go_wp2_with(go_at_call 66;(with_reducible refine(HI.out.sc aU.out aY.out).mono ?_);rintro e w4⟨rfl,aq,aD⟩;have aC:=mk0 aq;have HK4:=mk0 (HK3.out.trans aD);have aE:=mk0 (HD.out.below aq.old);obtain⟨⟨p0,p1,p2⟩,p5,_⟩:=aC.out.cells;clear aq aD);go_meet;case rel=>exact⟨q.2.2,HR,aC,HK4⟩
    · have bq:(kd==7)=false:=beq_eq_false_iff_ne.mpr k7
      rw[if_neg k7]at hx;cases hx;rw[if_neg (fun h=>by cases h)]at aj;have HR:=mk0 aj;clear k7 ka aj;go_wp2;go_meet;case rel=>exact⟨Wp,HR,aU,HK3⟩
  case rest=>
    clear hx aj ka;obtain⟨WZ,HR,aW,bf⟩:=hcut;obtain⟨b,hb,aZ⟩:=Option.bind_eq_some_iff.mp HR.out;have HB:=mk0 hb;have aN:=mk0 aZ;have bu:=mk0 (HD.out.below aW.out.old);obtain⟨⟨_,_,_⟩,_,_⟩:=aW.out.cells;clear hb aZ HR;go_wp2_with(go_at_call 135;(with_reducible refine(vR bu.out s n).mono ?_);rintro e w8⟨v8,rfl,X,G⟩;rw[a0]at X;obtain⟨AZ,cZ,rfl,_,_⟩:=X.reads;have ax:=mk0 X;have ap:=mk0 (aW.out.below G);have HK8:=mk0 (bf.out.trans (Kp.below G));clear G X);go_loopg [9,10,66] (ts.length) (fun kq v9 bA bv wr=>∃(i:Nat) (jn:Int) (st:Nat) (W':Wk),v9= .int .i64 jn∧bA= .int .i64 (st:Int)∧bv= .int .i64 (i:Int)∧eD (i+kq=ts.length)∧eD (st≤i)∧eD (beside (wk l1 l2 j) l1 l2 d (ts.drop i) st jn W'=some b)∧eD (Wt w1 B M (.string s) (.slice A1 l1.length c1) (.slice A2 l2.length c2) W' wr)∧eD (Kp wd wr)∧eD (Li (.slice AZ ts.length cZ) ts wr));case atStart=>exact⟨0,0,0,WZ,rfl,rfl,rfl,⟨by omega⟩,⟨Nat.le_refl _⟩,HB,ap,HK8,ax⟩
    case round=>
      clear HB ap HK8 ax aW bf;obtain⟨i,jn,st,W',rfl,rfl,rfl,aM,aP,HB,ae,HK5,aL⟩:=hrel;obtain⟨⟨q0,q1,q2⟩,_,_⟩:=ae.out.cells;have L:=mk0 (HD.out.below ae.out.old);by_cases hi:i<ts.length
      · obtain⟨_,rfl,_⟩:=aL.out.at hi
        have ib:decide ((i:Int)<(ts.length:Int))=true:=decide_eq_true (by omega);(have i1:(i:Int)<(ts.length:Int):=by omega);(have i0:(0:Int)≤(i:Int):=by omega);(have hw:wrap64 ((i:Int)+1)=((i+1:Nat):Int):=by have:=a6.out;unfold wrap64;omega);(have a7:wrap64 ((st:Int)+1)=((st+1:Nat):Int):=by have:=a6.out;have:=aP.out;unfold wrap64;omega);have hb:=HB.out;rw[List.drop_eq_getElem_cons hi,beside]at hb;generalize hx:ts[i]=x at*;clear hx HB;by_cases he:W'.e≠0
        · have eb:(W'.e !=0)=true:=bne_iff_ne.mpr he
          rw[if_pos he]at hb;cases hb;have hr:=aN.out;unfold xO at hr;rw[if_pos rfl]at hr;cases hr;clear he;go_wp2;go_ret;exact⟨rfl,ae.out,HK5.out⟩
        have eb:(W'.e !=0)=false:=bne_eq_false_iff_eq.mpr (by simpa using he);rw[if_neg he]at hb;clear he;by_cases k9:iC l1 x=9
        · have kb:(iC l1 x==9)=true:=beq_iff_eq.mpr k9
          rw[if_pos k9]at hb;obtain⟨Wq,aO,aS⟩:=Option.bind_eq_some_iff.mp hb;obtain⟨q,aV,aH⟩:=Option.bind_eq_some_iff.mp aS;have aJ:=mk0 aO;have aK:=mk0 aV;have HB:=mk0 aH;clear hb aS aH aO aV k9;go_wp2_with(first|(go_at_call 48;(with_reducible refine(rA L.out s x).mono ?_);rintro e w6⟨rfl,D⟩;have I:=mk0 (ae.out.below D);have HK6:=mk0 (HK5.out.trans (Kp.below D));have ay:=mk0 (aL.out.kept (Kp.below D));clear D)|(go_at_call 90;(with_reducible refine(kS 10 x 0 (wrap64 (d+1)) I.out aJ.out).mono ?_);rintro e w7⟨rfl,ag,Z⟩;have U:=mk0 ag;have HK7:=mk0 (HK6.out.trans Z);have aB:=mk0 (ay.out.kept Z);clear ag Z)|(go_at_call 66;(with_reducible refine(HI.out.sc U.out aK.out).mono ?_);rintro e w9⟨rfl,am,af⟩;have ao:=mk0 am;have HK9:=mk0 (HK7.out.trans af);have aG:=mk0 (aB.out.kept af);clear am af));go_roundg (gk-1);(case measure=>have:=aM.out;omega);case rel=>exact⟨i+1,jn,st,q.2.2,rfl,rfl,by rw[hw],⟨by have:=aM.out;omega⟩,⟨Nat.le_succ_of_le aP.out⟩,HB,ao,HK9,aG⟩
        · have kb:(iC l1 x==9)=false:=beq_eq_false_iff_ne.mpr k9
          rw[if_neg k9]at hb;obtain⟨Wq,aO,aS⟩:=Option.bind_eq_some_iff.mp hb;obtain⟨f,hf,aH⟩:=Option.bind_eq_some_iff.mp aS;obtain⟨q,aV,av⟩:=Option.bind_eq_some_iff.mp aH;have aJ:=mk0 aO;have HF:=mk0 hf;have aK:=mk0 aV;clear hb aS aH aO hf aV k9;by_cases he:q.2.2.e≠0
          · have bw:(q.2.2.e !=0)=true:=bne_iff_ne.mpr he
            rw[if_pos he]at av;cases av;have hr:=aN.out;unfold xO at hr;rw[if_pos rfl]at hr;cases hr;clear he;go_wp2_with(first|(go_at_call 48;(with_reducible refine(rA L.out s x).mono ?_);rintro e w6⟨rfl,D⟩;have I:=mk0 (ae.out.below D);have HK6:=mk0 (HK5.out.trans (Kp.below D));have ay:=mk0 (aL.out.kept (Kp.below D));clear D)|(go_at_call 90;(with_reducible refine(kS 9 x 0 (wrap64 (d+1)) I.out aJ.out).mono ?_);rintro e w7⟨rfl,ag,Z⟩;have U:=mk0 ag;have HK7:=mk0 (HK6.out.trans Z);have aB:=mk0 (ay.out.kept Z);have ah:=mk0 (HD.out.below ag.old);obtain⟨⟨p0,p1,p2⟩,_,_⟩:=U.out.cells;clear ag Z)|(go_at_call 13;(with_reducible refine(qK ah.out s x).mono ?_);rintro e w8⟨v8,rfl,X,G⟩;obtain⟨h0,aa⟩:=head_cons HF.out;obtain⟨A8,c8,rfl,_,_⟩:=X.reads;obtain⟨aF,rfl,g4⟩:=X.at h0;rw[aa]at g4;have g5:w8.cell? aF=some (.int .i64 f):=g4;have ap:=mk0 (U.out.below G);have HK8:=mk0 (HK7.out.trans (Kp.below G));have ax:=mk0 (aB.out.kept (Kp.below G));have o1:(0:Int)<((outs l2 x).length:Int):=by omega)|(go_at_call 91;(with_reducible refine(HI.out.fr ap.out aK.out).mono ?_);rintro e w9⟨rfl,am,af⟩;have Y:Below w9.heap.size w9 (w9.alloc (.cells #[.int .i64 q.1, .int .i64 q.2.1] 126)):=eX (Below.refl _ _) _;have ao:=mk0 (am.below Y);have HK9:=mk0 ((HK8.out.trans af).trans (Kp.below Y));have aG:=mk0 ((ax.out.kept af).kept (Kp.below Y));obtain⟨_,y5,yf⟩:=ao.out.cells;clear am af Y));go_ret;exact⟨rfl,ao.out,HK9.out⟩
          have bw:(q.2.2.e !=0)=false:=bne_eq_false_iff_eq.mpr (by simpa using he);rw[if_neg he]at av;clear he;by_cases h2:q.1=2
          · have br:(q.1 !=2)=false:=bne_eq_false_iff_eq.mpr h2
            by_cases hz:st=0
            · have zb:decide ((0:Int)<(st:Int))=false:=decide_eq_false (by omega)
              have bz:decide (0<st)=false:=decide_eq_false (by omega);rw[if_pos ⟨h2,Or.inl hz⟩]at av;have HB:=mk0 av;clear h2 hz av;go_wp2_with(first|(go_at_call 48;(with_reducible refine(rA L.out s x).mono ?_);rintro e w6⟨rfl,D⟩;have I:=mk0 (ae.out.below D);have HK6:=mk0 (HK5.out.trans (Kp.below D));have ay:=mk0 (aL.out.kept (Kp.below D));clear D)|(go_at_call 90;(with_reducible refine(kS 9 x 0 (wrap64 (d+1)) I.out aJ.out).mono ?_);rintro e w7⟨rfl,ag,Z⟩;have U:=mk0 ag;have HK7:=mk0 (HK6.out.trans Z);have aB:=mk0 (ay.out.kept Z);have ah:=mk0 (HD.out.below ag.old);obtain⟨⟨p0,p1,p2⟩,_,_⟩:=U.out.cells;clear ag Z)|(go_at_call 13;(with_reducible refine(qK ah.out s x).mono ?_);rintro e w8⟨v8,rfl,X,G⟩;obtain⟨h0,aa⟩:=head_cons HF.out;obtain⟨A8,c8,rfl,_,_⟩:=X.reads;obtain⟨aF,rfl,g4⟩:=X.at h0;rw[aa]at g4;have g5:w8.cell? aF=some (.int .i64 f):=g4;have ap:=mk0 (U.out.below G);have HK8:=mk0 (HK7.out.trans (Kp.below G));have ax:=mk0 (aB.out.kept (Kp.below G));have o1:(0:Int)<((outs l2 x).length:Int):=by omega)|(go_at_call 91;(with_reducible refine(HI.out.fr ap.out aK.out).mono ?_);rintro e w9⟨rfl,am,af⟩;have Y:Below w9.heap.size w9 (w9.alloc (.cells #[.int .i64 q.1, .int .i64 q.2.1] 126)):=eX (Below.refl _ _) _;have ao:=mk0 (am.below Y);have HK9:=mk0 ((HK8.out.trans af).trans (Kp.below Y));have aG:=mk0 ((ax.out.kept af).kept (Kp.below Y));obtain⟨_,y5,yf⟩:=ao.out.cells;clear am af Y));go_roundg (gk-1);(case measure=>have:=aM.out;omega);case rel=>exact⟨i+1,q.2.1,st+1,q.2.2,rfl,by rw[a7],by rw[hw],⟨by have:=aM.out;omega⟩,⟨Nat.succ_le_succ aP.out⟩,HB,ao,HK9,aG⟩
            · have zb:decide ((0:Int)<(st:Int))=true:=decide_eq_true (by omega)
              have bz:decide (0<st)=true:=decide_eq_true (by omega);by_cases hj:q.2.1=jn
              · have jb:(q.2.1 !=jn)=false:=bne_eq_false_iff_eq.mpr hj
                rw[if_pos ⟨h2,Or.inr hj⟩]at av;have HB:=mk0 av;clear h2 hz hj av;go_wp2_with(first|(go_at_call 48;(with_reducible refine(rA L.out s x).mono ?_);rintro e w6⟨rfl,D⟩;have I:=mk0 (ae.out.below D);have HK6:=mk0 (HK5.out.trans (Kp.below D));have ay:=mk0 (aL.out.kept (Kp.below D));clear D)|(go_at_call 90;(with_reducible refine(kS 9 x 0 (wrap64 (d+1)) I.out aJ.out).mono ?_);rintro e w7⟨rfl,ag,Z⟩;have U:=mk0 ag;have HK7:=mk0 (HK6.out.trans Z);have aB:=mk0 (ay.out.kept Z);have ah:=mk0 (HD.out.below ag.old);obtain⟨⟨p0,p1,p2⟩,_,_⟩:=U.out.cells;clear ag Z)|(go_at_call 13;(with_reducible refine(qK ah.out s x).mono ?_);rintro e w8⟨v8,rfl,X,G⟩;obtain⟨h0,aa⟩:=head_cons HF.out;obtain⟨A8,c8,rfl,_,_⟩:=X.reads;obtain⟨aF,rfl,g4⟩:=X.at h0;rw[aa]at g4;have g5:w8.cell? aF=some (.int .i64 f):=g4;have ap:=mk0 (U.out.below G);have HK8:=mk0 (HK7.out.trans (Kp.below G));have ax:=mk0 (aB.out.kept (Kp.below G));have o1:(0:Int)<((outs l2 x).length:Int):=by omega)|(go_at_call 91;(with_reducible refine(HI.out.fr ap.out aK.out).mono ?_);rintro e w9⟨rfl,am,af⟩;have Y:Below w9.heap.size w9 (w9.alloc (.cells #[.int .i64 q.1, .int .i64 q.2.1] 126)):=eX (Below.refl _ _) _;have ao:=mk0 (am.below Y);have HK9:=mk0 ((HK8.out.trans af).trans (Kp.below Y));have aG:=mk0 ((ax.out.kept af).kept (Kp.below Y));obtain⟨_,y5,yf⟩:=ao.out.cells;clear am af Y));go_roundg (gk-1);(case measure=>have:=aM.out;omega);case rel=>exact⟨i+1,q.2.1,st+1,q.2.2,rfl,by rw[a7],by rw[hw],⟨by have:=aM.out;omega⟩,⟨Nat.succ_le_succ aP.out⟩,HB,ao,HK9,aG⟩
              · have jb:(q.2.1 !=jn)=true:=bne_iff_ne.mpr hj
                rw[if_neg (fun h=>h.2.elim hz hj)]at av;cases av;have hr:=aN.out;unfold xO at hr;rw[if_pos rfl]at hr;cases hr;clear h2 hz hj;go_wp2_with(first|(go_at_call 48;(with_reducible refine(rA L.out s x).mono ?_);rintro e w6⟨rfl,D⟩;have I:=mk0 (ae.out.below D);have HK6:=mk0 (HK5.out.trans (Kp.below D));have ay:=mk0 (aL.out.kept (Kp.below D));clear D)|(go_at_call 90;(with_reducible refine(kS 9 x 0 (wrap64 (d+1)) I.out aJ.out).mono ?_);rintro e w7⟨rfl,ag,Z⟩;have U:=mk0 ag;have HK7:=mk0 (HK6.out.trans Z);have aB:=mk0 (ay.out.kept Z);have ah:=mk0 (HD.out.below ag.old);obtain⟨⟨p0,p1,p2⟩,_,_⟩:=U.out.cells;clear ag Z)|(go_at_call 13;(with_reducible refine(qK ah.out s x).mono ?_);rintro e w8⟨v8,rfl,X,G⟩;obtain⟨h0,aa⟩:=head_cons HF.out;obtain⟨A8,c8,rfl,_,_⟩:=X.reads;obtain⟨aF,rfl,g4⟩:=X.at h0;rw[aa]at g4;have g5:w8.cell? aF=some (.int .i64 f):=g4;have ap:=mk0 (U.out.below G);have HK8:=mk0 (HK7.out.trans (Kp.below G));have ax:=mk0 (aB.out.kept (Kp.below G));have o1:(0:Int)<((outs l2 x).length:Int):=by omega)|(go_at_call 91;(with_reducible refine(HI.out.fr ap.out aK.out).mono ?_);rintro e w9⟨rfl,am,af⟩;have Y:Below w9.heap.size w9 (w9.alloc (.cells #[.int .i64 q.1, .int .i64 q.2.1] 126)):=eX (Below.refl _ _) _;have ao:=mk0 (am.below Y);have HK9:=mk0 ((HK8.out.trans af).trans (Kp.below Y));have aG:=mk0 ((ax.out.kept af).kept (Kp.below Y));obtain⟨_,y5,yf⟩:=ao.out.cells;clear am af Y)|(go_at_call 67;(with_reducible refine(qy 19 ao.out).mono ?_);rintro e wx⟨rfl,al,ak⟩;have au:=mk0 al;have HK10:=mk0 (HK9.out.trans ak);clear al ak));go_ret;exact⟨rfl,au.out,HK10.out⟩
          · have br:(q.1 !=2)=true:=bne_iff_ne.mpr h2
            rw[if_neg (fun h=>h2 h.1)]at av;cases av;have hr:=aN.out;unfold xO at hr;rw[if_pos rfl]at hr;cases hr;clear h2;go_wp2_with(first|(go_at_call 48;(with_reducible refine(rA L.out s x).mono ?_);rintro e w6⟨rfl,D⟩;have I:=mk0 (ae.out.below D);have HK6:=mk0 (HK5.out.trans (Kp.below D));have ay:=mk0 (aL.out.kept (Kp.below D));clear D)|(go_at_call 90;(with_reducible refine(kS 9 x 0 (wrap64 (d+1)) I.out aJ.out).mono ?_);rintro e w7⟨rfl,ag,Z⟩;have U:=mk0 ag;have HK7:=mk0 (HK6.out.trans Z);have aB:=mk0 (ay.out.kept Z);have ah:=mk0 (HD.out.below ag.old);obtain⟨⟨p0,p1,p2⟩,_,_⟩:=U.out.cells;clear ag Z)|(go_at_call 13;(with_reducible refine(qK ah.out s x).mono ?_);rintro e w8⟨v8,rfl,X,G⟩;obtain⟨h0,aa⟩:=head_cons HF.out;obtain⟨A8,c8,rfl,_,_⟩:=X.reads;obtain⟨aF,rfl,g4⟩:=X.at h0;rw[aa]at g4;have g5:w8.cell? aF=some (.int .i64 f):=g4;have ap:=mk0 (U.out.below G);have HK8:=mk0 (HK7.out.trans (Kp.below G));have ax:=mk0 (aB.out.kept (Kp.below G));have o1:(0:Int)<((outs l2 x).length:Int):=by omega)|(go_at_call 91;(with_reducible refine(HI.out.fr ap.out aK.out).mono ?_);rintro e w9⟨rfl,am,af⟩;have Y:Below w9.heap.size w9 (w9.alloc (.cells #[.int .i64 q.1, .int .i64 q.2.1] 126)):=eX (Below.refl _ _) _;have ao:=mk0 (am.below Y);have HK9:=mk0 ((HK8.out.trans af).trans (Kp.below Y));have aG:=mk0 ((ax.out.kept af).kept (Kp.below Y));obtain⟨_,y5,yf⟩:=ao.out.cells;clear am af Y)|(go_at_call 67;(with_reducible refine(qy 19 ao.out).mono ?_);rintro e wx⟨rfl,al,ak⟩;have au:=mk0 al;have HK10:=mk0 (HK9.out.trans ak);clear al ak));go_ret;exact⟨rfl,au.out,HK10.out⟩
      · have ib:decide ((i:Int)<(ts.length:Int))=false:=decide_eq_false (by omega)
        have bD:decide (i<ts.length)=false:=decide_eq_false hi;have hb:=HB.out;rw[List.drop_of_length_le (by omega),beside]at hb;cases hb;have hr:=aN.out;unfold xO at hr;rw[if_neg (show ¬((false,st,jn,W').1=true)from fun h=>by cases h)]at hr;obtain⟨f,hf,ai⟩:=Option.bind_eq_some_iff.mp hr;have HF:=mk0 hf;dsimp only at ai;(have a7:wrap64 ((st:Int)+1)=((st+1:Nat):Int):=by have:=a6.out;have:=aP.out;have:=aM.out;unfold wrap64;omega);clear hi HB aN hr hf;by_cases he:W'.e≠0
        · have eb:(W'.e !=0)=true:=bne_iff_ne.mpr he
          rw[if_pos (Or.inl he)]at ai;cases ai;clear he;go_wp2_with(go_at_call 13;(with_reducible refine(qK L.out s n).mono ?_);rintro e w6⟨v6,rfl,an,D⟩;obtain⟨h0,aa⟩:=head_cons HF.out;obtain⟨A6,c6,rfl,_,_⟩:=an.reads;obtain⟨az,rfl,g4⟩:=an.at h0;rw[aa]at g4;have g5:w6.cell? az=some (.int .i64 f):=g4;have I:=mk0 (ae.out.below D);have HK6:=mk0 (HK5.out.trans (Kp.below D));have o1:(0:Int)<((outs l2 n).length:Int):=(by omega);have ab:=mk0 (L.out.below D);obtain⟨⟨p0,p1,p2⟩,p5,_⟩:=I.out.cells);go_ret;exact⟨rfl,I.out,HK6.out⟩
        have eb:(W'.e !=0)=false:=bne_eq_false_iff_eq.mpr (by simpa using he);by_cases hz:st=0
        · have zb:((st:Int)==0)=true:=beq_iff_eq.mpr (by omega)
          rw[if_pos (Or.inr hz)]at ai;cases ai;clear he hz;go_wp2_with(go_at_call 13;(with_reducible refine(qK L.out s n).mono ?_);rintro e w6⟨v6,rfl,an,D⟩;obtain⟨h0,aa⟩:=head_cons HF.out;obtain⟨A6,c6,rfl,_,_⟩:=an.reads;obtain⟨az,rfl,g4⟩:=an.at h0;rw[aa]at g4;have g5:w6.cell? az=some (.int .i64 f):=g4;have I:=mk0 (ae.out.below D);have HK6:=mk0 (HK5.out.trans (Kp.below D));have o1:(0:Int)<((outs l2 n).length:Int):=(by omega);have ab:=mk0 (L.out.below D);obtain⟨⟨p0,p1,p2⟩,p5,_⟩:=I.out.cells);go_ret;exact⟨rfl,I.out,HK6.out⟩
        have zb:((st:Int)==0)=false:=beq_eq_false_iff_ne.mpr (by omega);rw[if_neg (fun h=>h.elim he hz)]at ai
        split at ai
        case isFalse=>cases ai
        rename_i bd
        have aX:=mk0 bd;clear he hz bd;by_cases ht:(flw l2 f).f1=jn
        · have tb:((flw l2 f).f1 !=jn)=false:=bne_eq_false_iff_eq.mpr ht
          by_cases h5:iC l1 jn=5
          · have aw:(iC l1 jn !=5)=false:=bne_eq_false_iff_eq.mpr h5
            by_cases hn:(ins l2 jn).length=st+1
            · have nb:(((ins l2 jn).length:Int) !=((st+1:Nat):Int))=false:=bne_eq_false_iff_eq.mpr (by omega)
              have bl:(((ins l2 jn).length:Int) !=(st:Int)+1)=false:=bne_eq_false_iff_eq.mpr (by omega);rw[if_pos ⟨ht,h5,hn⟩]at ai;obtain⟨w2,bh,aj⟩:=Option.bind_eq_some_iff.mp ai;obtain⟨g,hg,aZ⟩:=Option.bind_eq_some_iff.mp aj;cases aZ;have bp:=mk0 bh;have HG:=mk0 hg;clear ht h5 hn ai aj bh hg;go_wp2_with(first|(go_at_call 13;(with_reducible refine(qK ba.out s jn).mono ?_);rintro e bk⟨_,rfl,a2,a3⟩;obtain⟨h0,aa⟩:=head_cons HG.out;obtain⟨_,_,rfl,_,_⟩:=a2.reads;obtain⟨bb,rfl,g4⟩:=a2.at h0;rw[aa]at g4;have g6:bk.cell? bb=some (.int .i64 g):=g4;have be:=mk0 (a1.out.below a3);have HK12:=mk0 (HK11.out.trans (Kp.below a3));have o2:(0:Int)<((outs l2 jn).length:Int):=by omega)|(go_at_call 13;(with_reducible refine(qK L.out s n).mono ?_);rintro e w6⟨v6,rfl,an,D⟩;obtain⟨h0,aa⟩:=head_cons HF.out;obtain⟨A6,c6,rfl,_,_⟩:=an.reads;obtain⟨az,rfl,g4⟩:=an.at h0;rw[aa]at g4;have g5:w6.cell? az=some (.int .i64 f):=g4;have I:=mk0 (ae.out.below D);have HK6:=mk0 (HK5.out.trans (Kp.below D));have o1:(0:Int)<((outs l2 n).length:Int):=(by omega);have ab:=mk0 (L.out.below D);obtain⟨⟨p0,p1,p2⟩,p5,_⟩:=I.out.cells;obtain⟨ad,rfl,y0,y1,u1,u2⟩:=ab.out.flow aX.out)|(go_at_call 48;(with_reducible refine(rA ab.out s jn).mono ?_);rintro e w7⟨rfl,ar⟩;have U:=mk0 (I.out.below ar);have HK7:=mk0 (HK6.out.trans (Kp.below ar));have ah:=mk0 (ab.out.below ar);obtain⟨⟨p0,p1,p2⟩,_,_⟩:=U.out.cells;clear ar)|(go_at_call 51;(with_reducible refine(uJ ah.out s jn).mono ?_);rintro e w8⟨v8,rfl,X,G⟩;obtain⟨A8,c8,rfl,_,_⟩:=X.reads;have ap:=mk0 (U.out.below G);have HK8:=mk0 (HK7.out.trans (Kp.below G));clear G X)|(go_at_call 137;(with_reducible refine(xG W.l.length jn ap.out bp.out).mono ?_);rintro e bC⟨rfl,aR,a5⟩;have a1:=mk0 aR;have HK11:=mk0 (HK8.out.trans a5);have ba:=mk0 (HD.out.below aR.old);obtain⟨⟨p0,p1,p2⟩,_,_⟩:=a1.out.cells;clear aR a5));go_ret;exact⟨rfl,be.out,HK12.out⟩
            · have nb:(((ins l2 jn).length:Int) !=((st+1:Nat):Int))=true:=bne_iff_ne.mpr (by omega)
              have bl:(((ins l2 jn).length:Int) !=(st:Int)+1)=true:=bne_iff_ne.mpr (by omega);rw[if_neg (fun h=>hn h.2.2)]at ai;cases ai;clear ht h5 hn;go_wp2_with(first|(go_at_call 13;(with_reducible refine(qK L.out s n).mono ?_);rintro e w6⟨v6,rfl,an,D⟩;obtain⟨h0,aa⟩:=head_cons HF.out;obtain⟨A6,c6,rfl,_,_⟩:=an.reads;obtain⟨az,rfl,g4⟩:=an.at h0;rw[aa]at g4;have g5:w6.cell? az=some (.int .i64 f):=g4;have I:=mk0 (ae.out.below D);have HK6:=mk0 (HK5.out.trans (Kp.below D));have o1:(0:Int)<((outs l2 n).length:Int):=(by omega);have ab:=mk0 (L.out.below D);obtain⟨⟨p0,p1,p2⟩,p5,_⟩:=I.out.cells;obtain⟨ad,rfl,y0,y1,u1,u2⟩:=ab.out.flow aX.out)|(go_at_call 48;(with_reducible refine(rA ab.out s jn).mono ?_);rintro e w7⟨rfl,ar⟩;have U:=mk0 (I.out.below ar);have HK7:=mk0 (HK6.out.trans (Kp.below ar));have ah:=mk0 (ab.out.below ar);obtain⟨⟨p0,p1,p2⟩,_,_⟩:=U.out.cells;clear ar)|(go_at_call 51;(with_reducible refine(uJ ah.out s jn).mono ?_);rintro e w8⟨v8,rfl,X,G⟩;obtain⟨A8,c8,rfl,_,_⟩:=X.reads;have ap:=mk0 (U.out.below G);have HK8:=mk0 (HK7.out.trans (Kp.below G));clear G X)|(go_at_call 67;(with_reducible refine(qy 19 ap.out).mono ?_);rintro e wx⟨rfl,al,ak⟩;have au:=mk0 al;have HK10:=mk0 (HK8.out.trans ak);clear al ak));go_ret;exact⟨rfl,au.out,HK10.out⟩
          · have aw:(iC l1 jn !=5)=true:=bne_iff_ne.mpr h5
            rw[if_neg (fun h=>h5 h.2.1)]at ai;cases ai;clear ht h5;go_wp2_with(first|(go_at_call 13;(with_reducible refine(qK L.out s n).mono ?_);rintro e w6⟨v6,rfl,an,D⟩;obtain⟨h0,aa⟩:=head_cons HF.out;obtain⟨A6,c6,rfl,_,_⟩:=an.reads;obtain⟨az,rfl,g4⟩:=an.at h0;rw[aa]at g4;have g5:w6.cell? az=some (.int .i64 f):=g4;have I:=mk0 (ae.out.below D);have HK6:=mk0 (HK5.out.trans (Kp.below D));have o1:(0:Int)<((outs l2 n).length:Int):=(by omega);have ab:=mk0 (L.out.below D);obtain⟨⟨p0,p1,p2⟩,p5,_⟩:=I.out.cells;obtain⟨ad,rfl,y0,y1,u1,u2⟩:=ab.out.flow aX.out)|(go_at_call 48;(with_reducible refine(rA ab.out s jn).mono ?_);rintro e w7⟨rfl,ar⟩;have U:=mk0 (I.out.below ar);have HK7:=mk0 (HK6.out.trans (Kp.below ar));have ah:=mk0 (ab.out.below ar);obtain⟨⟨p0,p1,p2⟩,_,_⟩:=U.out.cells;clear ar)|(go_at_call 67;(with_reducible refine(qy 19 U.out).mono ?_);rintro e wx⟨rfl,al,ak⟩;have au:=mk0 al;have HK10:=mk0 (HK7.out.trans ak);clear al ak));go_ret;exact⟨rfl,au.out,HK10.out⟩
        · have tb:((flw l2 f).f1 !=jn)=true:=bne_iff_ne.mpr ht
          rw[if_neg (fun h=>ht h.1)]at ai;cases ai;clear ht;go_wp2_with(first|(go_at_call 13;(with_reducible refine(qK L.out s n).mono ?_);rintro e w6⟨v6,rfl,an,D⟩;obtain⟨h0,aa⟩:=head_cons HF.out;obtain⟨A6,c6,rfl,_,_⟩:=an.reads;obtain⟨az,rfl,g4⟩:=an.at h0;rw[aa]at g4;have g5:w6.cell? az=some (.int .i64 f):=g4;have I:=mk0 (ae.out.below D);have HK6:=mk0 (HK5.out.trans (Kp.below D));have o1:(0:Int)<((outs l2 n).length:Int):=(by omega);have ab:=mk0 (L.out.below D);obtain⟨⟨p0,p1,p2⟩,p5,_⟩:=I.out.cells;obtain⟨ad,rfl,y0,y1,u1,u2⟩:=ab.out.flow aX.out)|(go_at_call 67;(with_reducible refine(qy 19 I.out).mono ?_);rintro e wx⟨rfl,al,ak⟩;have au:=mk0 al;have HK10:=mk0 (HK6.out.trans ak);clear al ak));go_ret;exact⟨rfl,au.out,HK10.out⟩
theorem I6{w1:World}{B M:Nat}{s:ByteArray}{A1 A2:Option Addr}{c1 c2:Nat}{l1:List S38}{l2:List S40}(hd:Df w1 A1 c1 l1 A2 c2 l2)(k:Nat):Told w1 B M (.string s) (.slice A1 l1.length c1) (.slice A2 l2.length c2) l1 l2 k:=by
  induction k using Nat.strongRecOn with
  |ind k ih=>
    intro I W r wc D G;cases I with
    |fr f d=>exact Fb hd ih f d D G
    |act n d=>exact Gg hd ih n d D G
    |blk n d=>exact Dk hd ih n d D G
    |lp n d=>exact EO hd ih n d D G
    |sc n d=>exact C8 hd ih n d D G
def rH.f(k:Nat)(I:ByteArray)(D:List (S38))(G:List (S40)):Option (List uw×Int):=
  (eu.f k I D G).bind fun c=>if c.2≠0 then some ([],c.2)else
    if 0<D.length∧D.length≤100000∧G.length≤100000 then
      (wk D G k (.sc 0 0) ⟨[],List.replicate D.length false,0⟩).bind fun r=>
        if r.2.2.e≠0 then some ([],r.2.2.e)else if r.2.2.met.any (fun b=> !b)=true then some ([],19)else some (r.2.2.l,0)
    else none
def Bo(w:World)(a b c:Value)(W:World):Prop:=W.heap[w.heap.size]?=some (.cells #[a,b,c] 25 (0,0))∧Below w.heap.size w W
theorem Bo.conj{w W:World}{a b c:Value}(h:Bo w a b c W):W.cell? ⟨w.heap.size,0,none⟩=some a∧W.cell? ⟨w.heap.size,1,none⟩=some b∧W.cell? ⟨w.heap.size,2,none⟩=some c∧Bo w a b c W:=
  ⟨(iF h.1 0).trans rfl,(iF h.1 1).trans rfl,(iF h.1 2).trans rfl,h⟩
theorem Bo.drew{w W:World}{a b c:Value}(h:Bo w a b c W):Bo w a b c W.drew:=⟨h.1,xH h.2⟩
theorem Bo.alloc{w W:World}{a b c:Value}(h:Bo w a b c W)(o:Obj):Bo w a b c (W.alloc o):=⟨sG h.1 o,eX h.2 o⟩
theorem EM(n:Nat):madeCells #[Value.bool false] n=((List.replicate n false).map Value.bool).toArray:=by
  apply Array.ext';apply List.ext_getElem
  · simp[madeCells]
  · intro i h1 h2
    simp[madeCells,Nat.mod_one]
theorem Wt.new{w D:World}(d0 d1 d2:Value)(n:Nat)(G:n≤100000)(h:Below w.heap.size w D):
    Wt w (D.heap.size+1) D.heap.size d0 d1 d2 ⟨[],List.replicate n false,0⟩ (((D.alloc (.cells (madeCells #[.bool false] n) 4)).alloc (.cells #[d0,d1,d2, .slice none 0 0, .slice (some ⟨D.heap.size,0,none⟩) n n, .int .i64 0] 97)).drew):=by
  have e:(D.alloc (.cells (madeCells #[.bool false] n) 4)).heap.size=D.heap.size+1:=by simp
  have hs:=kN h;refine⟨.slice none 0 0,⟨?_⟩,⟨Kd.sO _ _ _ _ _⟩,⟨?_⟩,⟨by omega,by omega,by simp;omega,by simp⟩,⟨eZ (eX (eX h _) _)⟩⟩
  · refine vK ?_
    have:=qF (D.alloc (.cells (madeCells #[.bool false] n) 4)) (.cells #[d0,d1,d2, .slice none 0 0, .slice (some ⟨D.heap.size,0,none⟩) n n, .int .i64 0] 97);rw[e]at this;simpa using this
  · refine vK (sG ?_ _)
    rw[←EM];exact qF D _
theorem Gf(p:Bool→Bool)(fs:List Bool)(i:Nat)(h:i<fs.length):(fs.take (i+1)).any p=((fs.take i).any p||p fs[i]):=by
  rw[List.take_succ_eq_append_getElem h,List.any_append];simp
theorem Wt.LD{w1 wc:World}{B M:Nat}{d0 d1 d2:Value}{W:Wk}(h:Wt w1 B M d0 d1 d2 W wc){i:Nat}(hi:i<W.met.length):wc.cell? ⟨M,i,none⟩=some (.bool W.met[i]):=by
  obtain⟨_,h1,_,D,_,_⟩:=h;exact(iF D.out _).trans (by rw[List.getElem?_toArray,List.getElem?_map,List.getElem?_eq_getElem hi];rfl)
theorem Co(W:Wk):rR (rR W 19) 19=rR W 19:=by
  unfold rR;by_cases h:W.e=0<;>simp[h]
def Wx(b:Bool)(W:Wk):Wk:=if b=true then rR W 19 else W
theorem Kw(b:Bool)(W:Wk):(Wx b W).met=W.met:=by cases b<;>rfl
theorem Ho(b:Bool)(W:Wk):rR (Wx b W) 19=Wx true W:=by
  cases b
  · rfl
  · exact Co W
theorem rH.calls(k:Nat)(Y:ByteArray)(I:Option Addr)(L:Nat)(D:List (S38))(X:Option Addr)(U:Nat)(G:List (S40))(r1:List uw)(r2:Int)(w:World)(aa:Kd.C k38 w I D.length D)(ai:D.length≤L)(ae:Kd.C k40 w X G.length G)(ag:G.length≤U)(h:rH.f k Y D G=some (r1,r2)):
    Calls Tryz.prog 54 #[.agg #[.string Y, .slice I D.length L, .slice X G.length U]] w fun e w'=>∃au:Value,e= .returned (.tuple #[au, .int .i64 r2])∧Kd.R wR 102 w' w.heap.size (fun _=>True) au r1∧Below w.heap.size w w':=by
  unfold rH.f at h;obtain⟨c,hc,h1⟩:=Option.bind_eq_some_iff.mp h;clear h;have HC:=mk0 hc;have aj:Below w.heap.size w (w.alloc (.cells #[.string Y, .slice I D.length L, .slice X G.length U] 25)):=eX (Below.refl _ _) _;have an:=mk0 aj;have R1:=mk0 (Kd.iT aa aj);have R2:=mk0 (Kd.iT ae aj);have H1:=mk0 ai;have H2:=mk0 ag;have Q1:=mk0 aa;have Q2:=mk0 ae;clear aa ae ai ag aj hc;by_cases he:c.2≠0
  · have eb:(c.2 !=0)=true:=bne_iff_ne.mpr he
    rw[if_pos he]at h1;cases h1;clear he;go_enter Tryz.func54,Tryz.ntmps54;go_wp2_with(go_at_call 10;(with_reducible refine(eu.calls k Y I L D X U G c.1 c.2 _ R1.out H1.out R2.out H2.out HC.out).mono ?_);rintro e w2⟨rfl,ab⟩;have ah:=mk0 (kg an.out ab);have al:=mk0 (iW (qF w (.cells #[.string Y, .slice I D.length L, .slice X G.length U] 25)) ab);clear ab);go_ret2;exact⟨_,rfl,Kd.sO _ _ _ _ _,ah.out⟩
  · have eb:(c.2 !=0)=false:=bne_eq_false_iff_eq.mpr (by simpa using he)
    rw[if_neg he]at h1
    split at h1
    case isFalse=>cases h1
    rename_i hn
    obtain⟨q,hq,h2⟩:=Option.bind_eq_some_iff.mp h1;have HQ:=mk0 hq;have HN:=mk0 hn;have HH:=mk0 h2;clear he h1 h2 hq hn;go_enter Tryz.func54,Tryz.ntmps54;go_wp2_with(go_at_call 10;(with_reducible refine(eu.calls k Y I L D X U G c.1 c.2 _ R1.out H1.out R2.out H2.out HC.out).mono ?_);rintro e w2⟨rfl,ab⟩;have ah:=mk0 (kg an.out ab);have al:=mk0 (iW (qF w (.cells #[.string Y, .slice I D.length L, .slice X G.length U] 25)) ab);clear ab);obtain⟨x0,x1,x2⟩:=qO al.out;(have n1:(0:Int)≤(D.length:Int):=by omega);(have n2:D.length≤140737488355328:=by have:=HN.out.2.1;omega);have av:=BD (P:=Tryz.prog) 95 4 (.bool false) 1 Tryz.underlying95 (by kernel_rfl) rfl (by decide) D.length (by omega);clear n1 n2;have af:Bo w (.string Y) (.slice I D.length L) (.slice X G.length U) w2:=⟨al.out,ah.out⟩
    go_region_held3 (fun W'=>W'.cell? ⟨w.heap.size,0,none⟩=some (.string Y)∧W'.cell? ⟨w.heap.size,1,none⟩=some (.slice I D.length L)∧W'.cell? ⟨w.heap.size,2,none⟩=some (.slice X G.length U)∧Bo w (.string Y) (.slice I D.length L) (.slice X G.length U) W')
      (first|exact Bo.conj af|exact Bo.conj af.drew|exact Bo.conj (af.alloc _)|exact Bo.conj (af.drew.alloc _)|exact Bo.conj ((af.drew.alloc _).alloc _)|exact Bo.conj ((af.alloc _).alloc _))
      (fail)
    have Z:=mk0 (Wt.new (.string Y) (.slice I D.length L) (.slice X G.length U) D.length HN.out.2.1 ah.out);(have ax:eD (Df w I L D X U G):=⟨⟨Q1.out,H1.out,Q2.out,H2.out,HN.out.2.1,HN.out.2.2⟩⟩);clear af av x0 x1 x2 al ah;generalize hB:w2.heap.size+1=B at*;go_wp2_with(go_at_call 66;(with_reducible refine((I6 ax.out k).sc Z.out HQ.out).mono ?_);rintro e w3⟨rfl,ao,aw⟩;have aq:=mk0 ao;clear ao aw);generalize w2.heap.size=M at*;clear hB Z;generalize hW:q.2.2=W at*;clear hW HQ HC;go_loopg [7] (W.met.length) (fun kq v7 wr=>∃i:Nat,v7= .int .i64 (i:Int)∧eD (i+kq=W.met.length)∧eD (Wt w B M (.string Y) (.slice I D.length L) (.slice X G.length U) (Wx ((W.met.take i).any (fun b=> !b)) W) wr));case atStart=>exact⟨0,rfl,⟨by omega⟩,aq⟩
    case round=>
      clear aq;obtain⟨i,rfl,HK,Z⟩:=hrel;have hm:=Kw ((W.met.take i).any (fun b=> !b)) W;have c4:=Wt.c4 Z.out;rw[hm]at c4;by_cases hi:i<W.met.length
      · have hc:=Wt.LD Z.out (i:=i) (by rw[hm];exact hi)
        have ar:=Gf (fun b=> !b) W.met i hi;have az:W.met.length≤1000000:=by
          obtain⟨vl,h1,h2,h3,h4,h5⟩:=Z.out;have:=h4.out.2.2.1;rw[hm]at this;exact this
        (have hw:wrap64 ((i:Int)+1)=((i+1:Nat):Int):=by unfold wrap64;omega);have ib:decide ((i:Int)<(W.met.length:Int))=true:=decide_eq_true (by omega);(have i1:(i:Int)<(W.met.length:Int):=by omega);(have i0:(0:Int)≤(i:Int):=by omega);have aD:wr.cell? ⟨M,i,none⟩=some (.bool W.met[i]):=hc.trans (by congr 2;exact List.getElem_of_eq hm _);clear hc hm az;generalize hb:W.met[i]=b at*;generalize aA:(W.met.take i).any (fun b=> !b)=bk at*;have am:=mk0 ar;clear ar hb aA;cases b with
        |true=>
          (have HE:eD ((W.met.take (i+1)).any (fun b=> !b)=bk):=⟨by rw[am.out];cases bk<;>rfl⟩);go_wp2;go_roundg (gk-1);(case measure=>have:=HK.out;omega);case rel=>exact⟨i+1,by rw[hw],⟨by have:=HK.out;omega⟩,⟨by rw[HE.out];exact Z.out⟩⟩
        |false=>
          (have HE:eD ((W.met.take (i+1)).any (fun b=> !b)=true):=⟨by rw[am.out];cases bk<;>rfl⟩);go_wp2_with(go_at_call 67;(with_reducible refine(qy 19 Z.out).mono ?_);rintro e w4⟨rfl,ap,aB⟩;have ay:=mk0 ap;clear ap aB);go_roundg (gk-1);(case measure=>have:=HK.out;omega);case rel=>exact⟨i+1,by rw[hw],⟨by have:=HK.out;omega⟩,⟨by rw[HE.out,←Ho bk W];exact ay.out⟩⟩
      · have ei:W.met.take i=W.met:=List.take_of_length_le (by omega)
        rw[ei]at Z;have ib:decide ((i:Int)<(W.met.length:Int))=false:=decide_eq_false (by omega);have aC:decide (i<W.met.length)=false:=decide_eq_false hi;have h2:=HH.out;clear hi ei HK HH hm;by_cases he:W.e≠0
        · rw[if_pos he]at h2
          cases h2;have e5:(Wx (W.met.any fun b=> !b) W).e=W.e:=by
            unfold Wx rR;cases(W.met.any fun b=> !b)<;>simp[he]
          obtain⟨_,c5,_⟩:=Z.out.cells;rw[e5]at c5;have eb:(W.e !=0)=true:=bne_iff_ne.mpr he;clear he e5;go_wp2;go_quiet(fail);go_wp2;go_ret2;exact⟨_,rfl,Kd.sO _ _ _ _ _,eP Z.out.old _⟩
        · rw[if_neg he]at h2
          (have ak:W.e=0:=by simpa using he);by_cases ha:(W.met.any fun b=> !b)=true
          · rw[if_pos ha]at h2
            cases h2;have e5:(Wx (W.met.any fun b=> !b) W).e=19:=by
              unfold Wx rR;rw[if_pos ha];exact if_pos ak
            obtain⟨_,c5,_⟩:=Z.out.cells;rw[e5]at c5;clear he ak ha e5;go_wp2;go_quiet(fail);go_wp2;go_ret2;exact⟨_,rfl,Kd.sO _ _ _ _ _,eP Z.out.old _⟩
          · rw[if_neg ha]at h2
            cases h2;have ew:Wx (W.met.any fun b=> !b) W=W:=if_neg ha;rw[ew]at Z;have HO:=mk0 Z.out.old;obtain⟨vl,h1,hr,h3,h4,h5⟩:=Z.out;have c5:wr.cell? ⟨B,5,none⟩=some (.int .i64 W.e):=(iF h1.out 5).trans rfl;have c3:wr.cell? ⟨B,3,none⟩=some vl:=(iF h1.out 3).trans rfl;rw[ak]at c5;clear he ak ha ew;go_wp2;go_ret2;exact⟨_,rfl,hr.out,HO.out⟩
end Go.Proofs.Ng
