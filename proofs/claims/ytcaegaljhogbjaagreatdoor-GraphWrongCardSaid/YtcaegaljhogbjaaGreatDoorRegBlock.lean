/- The reference's walker: 'scope'. -/
import Derived.Test.YtcaegaljhogbjaaGreatDoorRegFrom
set_option linter.unusedSimpArgs false
set_option linter.unusedVariables false
set_option maxHeartbeats 8000000
set_option maxRecDepth 100000
namespace Go.Proofs.Ng
open RowKit Lib Go.Sort PW PL PM Y Gd Go.Proofs.Gr R
theorem head_cons{l:List Int}{f:Int}(h:l.head?=some f):∃(h:0<l.length),l[0]=f:=by
  cases l with
  |nil=>cases h
  |cons x l=>cases h;exact⟨Nat.succ_pos _,rfl⟩
theorem Ej(l1:List S38)(kd:Int)(fs:List Int)(i:Nat)(h:i<fs.length):vN l1 kd (fs.take (i+1))=if iC l1 fs[i]=kd then fs[i]else vN l1 kd (fs.take i):=by
  unfold vN;rw[List.take_succ_eq_append_getElem h,List.foldl_append];rfl
theorem C8 {w1:World} {B M:Nat} {s:ByteArray} {A1 A2:Option Addr} {c1 c2:Nat} {l1:List S38} {l2:List S40} (hd:Df w1 A1 c1 l1 A2 c2 l2) {k:Nat}
    (ih:∀j,j<k→Told w1 B M (.string s) (.slice A1 l1.length c1) (.slice A2 l2.length c2) l1 l2 j) (n d:Int) {W:Wk} {r:Int×Int×Wk} {wc:World} (h:Wt w1 B M (.string s) (.slice A1 l1.length c1) (.slice A2 l2.length c2) W wc) (hr:wk l1 l2 k (.sc n d) W=some r):
    Calls Tryz.prog 66 #[.pointer (some ⟨B,0,none⟩), .int .i64 n, .int .i64 d] wc fun e w'=>e= .returned (.tuple #[])∧Wt w1 B M (.string s) (.slice A1 l1.length c1) (.slice A2 l2.length c2) r.2.2 w'∧Kp wc w':=by
  cases k with
  |zero=>cases hr
  |succ j=>
  have HD:=mk0 hd;have HI:=mk0 (ih j (Nat.lt_succ_self j));have HR:=mk0 hr;have HT:=mk0 h;obtain⟨⟨q0,q1,q2⟩,_,_⟩:=h.cells;have ak:=mk0 (hd.below h.old);have az:eD ((inside l1 n).length≤1000000):=⟨by have:=xS (fun y:S38=>y.f1==n) l1 0;have:=hd.n1;unfold inside;omega⟩
  have aF:eD (∀f∈inside l1 n,0≤f∧f≤1000000):=⟨fun f hf=>by have:=Fp _ _ _ _ hf;have:=hd.n1;omega⟩
  clear hd ih hr h;go_enter Tryz.func66,Tryz.ntmps66;go_wp2_with(go_at_call 52;(with_reducible refine(Cy ak.out s n).mono ?_);rintro e w2⟨_,rfl,aq,an⟩;obtain⟨A,c,rfl,_,_⟩:=aq.reads;have av:=mk0 aq;have ax:=mk0 (HT.out.below an);have HK2:=mk0 (Kp.below an);clear aq an);generalize aA:inside l1 n=fs at*;go_loopg [6,7,18] (fs.length) (fun kq v6 v7 aD wr=>∃i:Nat,v6= .int .i64 (vN l1 1 (fs.take i))∧v7= .int .i64 (vN l1 2 (fs.take i))∧aD= .int .i64 (i:Int)∧eD (i+kq=fs.length)∧eD (Wt w1 B M (.string s) (.slice A1 l1.length c1) (.slice A2 l2.length c2) W wr)∧eD (Kp wc wr)∧eD (Li (.slice A fs.length c) fs wr));case atStart=>exact⟨0,rfl,rfl,rfl,⟨by omega⟩,ax,HK2,av⟩
  case round=>
    clear ax HK2 av HT ak q0 q1 q2;obtain⟨i,rfl,rfl,rfl,al,HT,HK,HL⟩:=hrel;obtain⟨⟨q0,q1,q2⟩,_,_⟩:=HT.out.cells;have ak:=mk0 (HD.out.below HT.out.old);by_cases hi:i<fs.length
    · obtain⟨_,rfl,_⟩:=HL.out.at hi
      have ib:decide ((i:Int)<(fs.length:Int))=true:=decide_eq_true (by omega);(have i1:(i:Int)<(fs.length:Int):=by omega);(have i0:(0:Int)≤(i:Int):=by omega);(have hw:wrap64 ((i:Int)+1)=((i+1:Nat):Int):=by have:=az.out;unfold wrap64;omega);have e1:=mk0 (Ej l1 1 fs i hi);have e2:=mk0 (Ej l1 2 fs i hi);generalize hx:fs[i]=x at*;generalize ap:iC l1 x=kd at*;by_cases k1:kd=1
      · have aC:(kd==1)=true:=beq_iff_eq.mpr k1
        have E1:=mk0 (e1.out.trans (if_pos k1));have E2:=mk0 (e2.out.trans (if_neg (by omega)));clear k1 e1 e2;go_wp2_with(go_at_call 48;(with_reducible refine(rA ak.out s x).mono ?_);rintro e w3⟨rfl,L⟩;rw[ap];have D:=mk0 (HT.out.below L);have HK3:=mk0 (HK.out.trans (Kp.below L));have ao:=mk0 (HL.out.kept (Kp.below L));clear L);go_roundg (gk-1);(case measure=>have:=al.out;omega);case rel=>exact⟨i+1,by rw[E1.out],by rw[E2.out],by rw[hw],⟨by have:=al.out;omega⟩,D,HK3,ao⟩
      · have aC:(kd==1)=false:=beq_eq_false_iff_ne.mpr k1
        have E1:=mk0 (e1.out.trans (if_neg k1));by_cases k2:kd=2
        · have ay:(kd==2)=true:=beq_iff_eq.mpr k2
          have E2:=mk0 (e2.out.trans (if_pos k2));clear k1 k2 e1 e2;go_wp2_with(go_at_call 48;(with_reducible refine(rA ak.out s x).mono ?_);rintro e w3⟨rfl,L⟩;rw[ap];have D:=mk0 (HT.out.below L);have HK3:=mk0 (HK.out.trans (Kp.below L));have ao:=mk0 (HL.out.kept (Kp.below L));clear L);go_roundg (gk-1);(case measure=>have:=al.out;omega);case rel=>exact⟨i+1,by rw[E1.out],by rw[E2.out],by rw[hw],⟨by have:=al.out;omega⟩,D,HK3,ao⟩
        · have ay:(kd==2)=false:=beq_eq_false_iff_ne.mpr k2
          have E2:=mk0 (e2.out.trans (if_neg k2));clear k1 k2 e1 e2;go_wp2_with(go_at_call 48;(with_reducible refine(rA ak.out s x).mono ?_);rintro e w3⟨rfl,L⟩;rw[ap];have D:=mk0 (HT.out.below L);have HK3:=mk0 (HK.out.trans (Kp.below L));have ao:=mk0 (HL.out.kept (Kp.below L));clear L);go_roundg (gk-1);(case measure=>have:=al.out;omega);case rel=>exact⟨i+1,by rw[E1.out],by rw[E2.out],by rw[hw],⟨by have:=al.out;omega⟩,D,HK3,ao⟩
    · have ib:decide ((i:Int)<(fs.length:Int))=false:=decide_eq_false (by omega)
      have ei:fs.take i=fs:=List.take_of_length_le (by omega);have aE:decide (i<fs.length)=false:=decide_eq_false hi;rw[ei];clear hi ei;have hr:=HR.out;unfold wk at hr;rw[aA]at hr;obtain⟨_,hp,aw⟩:=Option.bind_eq_some_iff.mp hr;obtain⟨f,hf,au⟩:=Option.bind_eq_some_iff.mp aw;obtain⟨q,hq,ar⟩:=Option.bind_eq_some_iff.mp au;clear hr aw au;generalize ha:vN l1 1 fs=a at*;generalize hb:vN l1 2 fs=b at*;have HP:=mk0 hp;have HF:=mk0 hf;have HQ:=mk0 hq;have hr:=ar;clear ar;by_cases he:q.2.2.e=0
      · have eb:(q.2.2.e==0)=true:=beq_iff_eq.mpr he
        by_cases h1:q.1=1
        · have aB:(q.1 !=1)=false:=bne_eq_false_iff_eq.mpr h1
          by_cases h2:q.2.1=b
          · have an:(q.2.1 !=b)=false:=bne_eq_false_iff_eq.mpr h2
            rw[if_neg (fun h=>h.2 ⟨h1,h2⟩)]at hr;cases hr;clear hp hf hq HR ha hb he h1 h2;go_wp2_with(first
        |(go_at_call 90;(with_reducible refine(kS 1 a b d HT.out HP.out).mono ?_);rintro e w3⟨rfl,G,af⟩;have D:=mk0 G;have HK3:=mk0 (HK.out.trans af);have ag:=mk0 (HD.out.below G.old);obtain⟨⟨p0,p1,p2⟩,_,_⟩:=D.out.cells;clear G af)
        |(go_at_call 13;(with_reducible refine(qK ag.out s a).mono ?_);rintro e w4⟨v4,rfl,Y,X⟩;obtain⟨h0,ai⟩:=head_cons HF.out;obtain⟨A4,c4,rfl,_,_⟩:=Y.reads;obtain⟨ah,rfl,g4⟩:=Y.at h0;rw[ai]at g4;have g5:w4.cell? ah=some (.int .i64 f):=g4;have aj:=mk0 (D.out.below X);have HK4:=mk0 (HK3.out.trans (Kp.below X));have o1:(0:Int)<((outs l2 a).length:Int):=by omega)
        |(go_at_call 91;(with_reducible refine(HI.out.fr aj.out HQ.out).mono ?_);rintro e w5⟨rfl,aa,Z⟩;have I:Below w5.heap.size w5 (w5.alloc (.cells #[.int .i64 q.1, .int .i64 q.2.1] 126)):=eX (Below.refl _ _) _;have U:=mk0 (aa.below I);have HK6:=mk0 ((HK4.out.trans Z).trans (Kp.below I));obtain⟨_,y5,yf⟩:=U.out.cells;clear aa Z I)
        |(go_at_call 67;(with_reducible refine(qy 19 U.out).mono ?_);rintro e w7⟨rfl,ab,ae⟩;have am:=mk0 ab;have HK7:=mk0 (HK6.out.trans ae);clear ab ae))
            go_end0
            exact⟨rfl,U.out,HK6.out⟩
          · have an:(q.2.1 !=b)=true:=bne_iff_ne.mpr h2
            rw[if_pos ⟨he,fun h=>h2 h.2⟩]at hr;cases hr;clear hp hf hq HR ha hb he h1 h2;go_wp2_with(first
        |(go_at_call 90;(with_reducible refine(kS 1 a b d HT.out HP.out).mono ?_);rintro e w3⟨rfl,G,af⟩;have D:=mk0 G;have HK3:=mk0 (HK.out.trans af);have ag:=mk0 (HD.out.below G.old);obtain⟨⟨p0,p1,p2⟩,_,_⟩:=D.out.cells;clear G af)
        |(go_at_call 13;(with_reducible refine(qK ag.out s a).mono ?_);rintro e w4⟨v4,rfl,Y,X⟩;obtain⟨h0,ai⟩:=head_cons HF.out;obtain⟨A4,c4,rfl,_,_⟩:=Y.reads;obtain⟨ah,rfl,g4⟩:=Y.at h0;rw[ai]at g4;have g5:w4.cell? ah=some (.int .i64 f):=g4;have aj:=mk0 (D.out.below X);have HK4:=mk0 (HK3.out.trans (Kp.below X));have o1:(0:Int)<((outs l2 a).length:Int):=by omega)
        |(go_at_call 91;(with_reducible refine(HI.out.fr aj.out HQ.out).mono ?_);rintro e w5⟨rfl,aa,Z⟩;have I:Below w5.heap.size w5 (w5.alloc (.cells #[.int .i64 q.1, .int .i64 q.2.1] 126)):=eX (Below.refl _ _) _;have U:=mk0 (aa.below I);have HK6:=mk0 ((HK4.out.trans Z).trans (Kp.below I));obtain⟨_,y5,yf⟩:=U.out.cells;clear aa Z I)
        |(go_at_call 67;(with_reducible refine(qy 19 U.out).mono ?_);rintro e w7⟨rfl,ab,ae⟩;have am:=mk0 ab;have HK7:=mk0 (HK6.out.trans ae);clear ab ae))
            go_end0
            exact⟨rfl,am.out,HK7.out⟩
        · have aB:(q.1 !=1)=true:=bne_iff_ne.mpr h1
          rw[if_pos ⟨he,fun h=>h1 h.1⟩]at hr;cases hr;clear hp hf hq HR ha hb he h1;go_wp2_with(first
        |(go_at_call 90;(with_reducible refine(kS 1 a b d HT.out HP.out).mono ?_);rintro e w3⟨rfl,G,af⟩;have D:=mk0 G;have HK3:=mk0 (HK.out.trans af);have ag:=mk0 (HD.out.below G.old);obtain⟨⟨p0,p1,p2⟩,_,_⟩:=D.out.cells;clear G af)
        |(go_at_call 13;(with_reducible refine(qK ag.out s a).mono ?_);rintro e w4⟨v4,rfl,Y,X⟩;obtain⟨h0,ai⟩:=head_cons HF.out;obtain⟨A4,c4,rfl,_,_⟩:=Y.reads;obtain⟨ah,rfl,g4⟩:=Y.at h0;rw[ai]at g4;have g5:w4.cell? ah=some (.int .i64 f):=g4;have aj:=mk0 (D.out.below X);have HK4:=mk0 (HK3.out.trans (Kp.below X));have o1:(0:Int)<((outs l2 a).length:Int):=by omega)
        |(go_at_call 91;(with_reducible refine(HI.out.fr aj.out HQ.out).mono ?_);rintro e w5⟨rfl,aa,Z⟩;have I:Below w5.heap.size w5 (w5.alloc (.cells #[.int .i64 q.1, .int .i64 q.2.1] 126)):=eX (Below.refl _ _) _;have U:=mk0 (aa.below I);have HK6:=mk0 ((HK4.out.trans Z).trans (Kp.below I));obtain⟨_,y5,yf⟩:=U.out.cells;clear aa Z I)
        |(go_at_call 67;(with_reducible refine(qy 19 U.out).mono ?_);rintro e w7⟨rfl,ab,ae⟩;have am:=mk0 ab;have HK7:=mk0 (HK6.out.trans ae);clear ab ae))
          go_end0
          exact⟨rfl,am.out,HK7.out⟩
      · have eb:(q.2.2.e==0)=false:=beq_eq_false_iff_ne.mpr he
        rw[if_neg (fun h=>he h.1)]at hr;cases hr;clear hp hf hq HR ha hb he;go_wp2_with(first
        |(go_at_call 90;(with_reducible refine(kS 1 a b d HT.out HP.out).mono ?_);rintro e w3⟨rfl,G,af⟩;have D:=mk0 G;have HK3:=mk0 (HK.out.trans af);have ag:=mk0 (HD.out.below G.old);obtain⟨⟨p0,p1,p2⟩,_,_⟩:=D.out.cells;clear G af)
        |(go_at_call 13;(with_reducible refine(qK ag.out s a).mono ?_);rintro e w4⟨v4,rfl,Y,X⟩;obtain⟨h0,ai⟩:=head_cons HF.out;obtain⟨A4,c4,rfl,_,_⟩:=Y.reads;obtain⟨ah,rfl,g4⟩:=Y.at h0;rw[ai]at g4;have g5:w4.cell? ah=some (.int .i64 f):=g4;have aj:=mk0 (D.out.below X);have HK4:=mk0 (HK3.out.trans (Kp.below X));have o1:(0:Int)<((outs l2 a).length:Int):=by omega)
        |(go_at_call 91;(with_reducible refine(HI.out.fr aj.out HQ.out).mono ?_);rintro e w5⟨rfl,aa,Z⟩;have I:Below w5.heap.size w5 (w5.alloc (.cells #[.int .i64 q.1, .int .i64 q.2.1] 126)):=eX (Below.refl _ _) _;have U:=mk0 (aa.below I);have HK6:=mk0 ((HK4.out.trans Z).trans (Kp.below I));obtain⟨_,y5,yf⟩:=U.out.cells;clear aa Z I)
        |(go_at_call 67;(with_reducible refine(qy 19 U.out).mono ?_);rintro e w7⟨rfl,ab,ae⟩;have am:=mk0 ab;have HK7:=mk0 (HK6.out.trans ae);clear ab ae))
        go_end0;exact⟨rfl,U.out,HK6.out⟩
theorem Df.DI{w:World}{A1 A2:Option Addr}{c1 c2:Nat}{l1:List S38}{l2:List S40}(h:Df w A1 c1 l1 A2 c2 l2){f:Int}(U:inF l2 f):∃ad,A2=some ad∧0≤wrap64 (f-1)∧wrap64 (f-1)<(l2.length:Int)∧
    w.cell? (ad.add ((wrap64 (f-1)).toNat*5))=some (.int .i64 (flw l2 f).f0)∧w.cell? ⟨(ad.add ((wrap64 (f-1)).toNat*5)).block,(ad.add ((wrap64 (f-1)).toNat*5)).off+1,none⟩=some (.int .i64 (flw l2 f).f1)∧w.cell? ⟨(ad.add ((wrap64 (f-1)).toNat*5)).block,(ad.add ((wrap64 (f-1)).toNat*5)).off+2,none⟩=some (.int .i64 (flw l2 f).f2)∧
    w.cell? ⟨(ad.add ((wrap64 (f-1)).toNat*5)).block,(ad.add ((wrap64 (f-1)).toNat*5)).off+3,none⟩=some (.int .i64 (flw l2 f).f3)∧w.cell? ⟨(ad.add ((wrap64 (f-1)).toNat*5)).block,(ad.add ((wrap64 (f-1)).toNat*5)).off+4,none⟩=some (.string (flw l2 f).f4):=by
  obtain⟨h1,_⟩:=U;have Z:=h.n2;have Y:wrap64 (f-1)=f-1:=by unfold wrap64;omega
  rw[Y];obtain⟨ad,e,X,L,I,D,G⟩:=zI h.r2 (f-1) (by omega) (by omega);exact⟨ad,e,by omega,by omega,X,L,I,D,G⟩
theorem G8(p:Int→Bool)(fs:List Int)(i:Nat)(h:i<fs.length):(fs.take (i+1)).any p=((fs.take i).any p||p fs[i]):=by
  rw[List.take_succ_eq_append_getElem h,List.any_append];simp
def Wy(w1 w0:World)(B M:Nat)(d0 d1 d2:Value)(W:Wk)(b:Nat)(q:Int×Int×Wk)(wc:World):Prop:=Wt w1 B M d0 d1 d2 W wc∧Kp w0 wc∧wc.heap[b]?=some (.cells #[.int .i64 q.1, .int .i64 q.2.1] 126 (0,0))
section
variable {w1 w0 wc w':World} {B M:Nat} {d0 d1 d2:Value} {W:Wk} {b:Nat} {q:Int×Int×Wk}
theorem Wy.below(h:Wy w1 w0 B M d0 d1 d2 W b q wc)(D:Below wc.heap.size wc w'):Wy w1 w0 B M d0 d1 d2 W b q w':=⟨h.1.below D,h.2.1.trans (Kp.below D),iW h.2.2 D⟩
theorem Wy.drew(h:Wy w1 w0 B M d0 d1 d2 W b q wc):Wy w1 w0 B M d0 d1 d2 W b q wc.drew:=h.below (eZ (Below.refl _ _))
theorem Wy.conj(h:Wy w1 w0 B M d0 d1 d2 W b q wc):wc.cell? ⟨B,0,none⟩=some d0∧wc.cell? ⟨B,1,none⟩=some d1∧wc.cell? ⟨B,2,none⟩=some d2∧wc.cell? ⟨b,0,none⟩=some (.int .i64 q.1)∧wc.cell? ⟨b,1,none⟩=some (.int .i64 q.2.1)∧Wy w1 w0 B M d0 d1 d2 W b q wc:=
  ⟨h.1.cells.1.1,h.1.cells.1.2.1,h.1.cells.1.2.2,(iF h.2.2 0).trans rfl,(iF h.2.2 1).trans rfl,h⟩
theorem Wy.old(h:Wy w1 w0 B M d0 d1 d2 W b q wc):Below w1.heap.size w1 wc:=h.1.old
end
theorem CJ{l:List Int}(h:l.length=2):∃f1 f2,l=[f1,f2]:=by
  match l,h with
  |[f1,f2],_=>exact⟨f1,f2,rfl⟩
theorem Cm{l:List Int}(h:l.length=1):∃f1,l=[f1]:=by
  match l,h with
  |[f1],_=>exact⟨f1,rfl⟩
theorem EO {w1:World} {B M:Nat} {s:ByteArray} {A1 A2:Option Addr} {c1 c2:Nat} {l1:List S38} {l2:List S40} (hd:Df w1 A1 c1 l1 A2 c2 l2) {k:Nat}
    (ih:∀j,j<k→Told w1 B M (.string s) (.slice A1 l1.length c1) (.slice A2 l2.length c2) l1 l2 j) (n d:Int) {W:Wk} {r:Int×Int×Wk} {wc:World} (h:Wt w1 B M (.string s) (.slice A1 l1.length c1) (.slice A2 l2.length c2) W wc) (hr:wk l1 l2 k (.lp n d) W=some r):
    Calls Tryz.prog 115 #[.pointer (some ⟨B,0,none⟩), .int .i64 n, .int .i64 d] wc fun e w'=>e= .returned (.int .i64 r.1)∧Wt w1 B M (.string s) (.slice A1 l1.length c1) (.slice A2 l2.length c2) r.2.2 w'∧Kp wc w':=by
  cases k with
  |zero=>cases hr
  |succ j=>
  have HD:=mk0 hd;have HI:=mk0 (ih j (Nat.lt_succ_self j));have HT:=mk0 h;obtain⟨⟨q0,q1,q2⟩,_,_⟩:=h.cells;have ao:=mk0 (hd.below h.old);have aW:eD ((ins l2 n).length≤1000000):=⟨by have:=xS (fun y:S40=>y.f1==n) l2 0;have:=hd.n2;unfold ins;omega⟩
  have bj:eD (∀n,(outs l2 n).length≤1000000):=⟨fun n=>by have:=xS (fun y:S40=>y.f0==n) l2 0;have:=hd.n2;unfold outs;omega⟩
  unfold wk at hr;clear hd ih h;by_cases hi:(ins l2 n).length=2
  · have ib:(((ins l2 n).length:Int) !=2)=false:=bne_eq_false_iff_eq.mpr (by omega)
    by_cases ha:(again l2 (ins l2 n)).length=1
    · have ab:(((again l2 (ins l2 n)).length:Int) !=1)=false:=bne_eq_false_iff_eq.mpr (by omega)
      rw[if_pos ⟨hi,ha⟩]at hr;obtain⟨_,hp,bc⟩:=Option.bind_eq_some_iff.mp hr;obtain⟨f,hf,aA⟩:=Option.bind_eq_some_iff.mp bc;obtain⟨q,hq,aN⟩:=Option.bind_eq_some_iff.mp aA;clear hr bc aA;have HP:=mk0 hp;have HF:=mk0 hf;have HQ:=mk0 hq;clear hi ha hp hf hq;by_cases he:q.2.2.e≠0
      · have eb:(q.2.2.e !=0)=true:=bne_iff_ne.mpr he
        rw[if_pos he]at aN;cases aN;clear he;go_enter Tryz.func115,Tryz.ntmps115;go_wp2_with(first
        |(go_at_call 51;(with_reducible refine(uJ ao.out s n).mono ?_);rintro e w2⟨v2,rfl,ae,Z⟩;obtain⟨Ai,ci,rfl,_,_⟩:=ae.reads;have aw:=mk0 ae;have ai:=mk0 (HT.out.below Z);have HK2:=mk0 (Kp.below Z);have ak:=mk0 (ao.out.below Z);obtain⟨⟨p0,p1,p2⟩,_,_⟩:=ai.out.cells;clear ae Z)
        |(go_at_call 70;(with_reducible refine(rO ak.out s aw.out aW.out Al).mono ?_);rintro e w3⟨v3,rfl,aq,aj⟩;obtain⟨A3,c3,rfl,_,_⟩:=aq.reads;have aH:=mk0 (ai.out.below aj);have HK3:=mk0 (HK2.out.trans (Kp.below aj));clear aq aj)
        |(go_at_call 90;(with_reducible refine(kS 7 n 0 d aH.out HP.out).mono ?_);rintro e w4⟨rfl,ax,aS⟩;have aG:=mk0 ax;have HK4:=mk0 (HK3.out.trans aS);have az:=mk0 (HD.out.below ax.old);obtain⟨⟨p0,p1,p2⟩,_,_⟩:=aG.out.cells;clear ax aS)
        |(go_at_call 13;(with_reducible refine(qK az.out s n).mono ?_);rintro e w5⟨v5,rfl,aD,aE⟩;obtain⟨h0,aT⟩:=head_cons HF.out;obtain⟨A5,c5,rfl,_,_⟩:=aD.reads;obtain⟨aY,rfl,g4⟩:=aD.at h0;rw[aT]at g4;have g5:w5.cell? aY=some (.int .i64 f):=g4;have aU:=mk0 (aG.out.below aE);have HK5:=mk0 (HK4.out.trans (Kp.below aE));have o1:(0:Int)<((outs l2 n).length:Int):=by omega)
        |(go_at_call 91;(with_reducible refine(HI.out.fr aU.out HQ.out).mono ?_);rintro e w6⟨rfl,aQ,aI⟩;have au:Below w6.heap.size w6 (w6.alloc (.cells #[.int .i64 q.1, .int .i64 q.2.1] 126)):=eX (Below.refl _ _) _;have aF:=mk0 (aQ.below au);have HK6:=mk0 ((HK5.out.trans aI).trans (Kp.below au));have a3:=mk0 (qF w6 (.cells #[.int .i64 q.1, .int .i64 q.2.1] 126));obtain⟨⟨r0,r1,r2⟩,y5,yf⟩:=aF.out.cells;clear aQ aI au))
        go_ret;exact⟨rfl,aF.out,HK6.out⟩
      · have eb:(q.2.2.e !=0)=false:=bne_eq_false_iff_eq.mpr (by simpa using he)
        rw[if_neg he]at aN;have HH:=mk0 aN;clear he aN;go_enter Tryz.func115,Tryz.ntmps115;go_wp2_with(first
        |(go_at_call 51;(with_reducible refine(uJ ao.out s n).mono ?_);rintro e w2⟨v2,rfl,ae,Z⟩;obtain⟨Ai,ci,rfl,_,_⟩:=ae.reads;have aw:=mk0 ae;have ai:=mk0 (HT.out.below Z);have HK2:=mk0 (Kp.below Z);have ak:=mk0 (ao.out.below Z);obtain⟨⟨p0,p1,p2⟩,_,_⟩:=ai.out.cells;clear ae Z)
        |(go_at_call 70;(with_reducible refine(rO ak.out s aw.out aW.out Al).mono ?_);rintro e w3⟨v3,rfl,aq,aj⟩;obtain⟨A3,c3,rfl,_,_⟩:=aq.reads;have aH:=mk0 (ai.out.below aj);have HK3:=mk0 (HK2.out.trans (Kp.below aj));clear aq aj)
        |(go_at_call 90;(with_reducible refine(kS 7 n 0 d aH.out HP.out).mono ?_);rintro e w4⟨rfl,ax,aS⟩;have aG:=mk0 ax;have HK4:=mk0 (HK3.out.trans aS);have az:=mk0 (HD.out.below ax.old);obtain⟨⟨p0,p1,p2⟩,_,_⟩:=aG.out.cells;clear ax aS)
        |(go_at_call 13;(with_reducible refine(qK az.out s n).mono ?_);rintro e w5⟨v5,rfl,aD,aE⟩;obtain⟨h0,aT⟩:=head_cons HF.out;obtain⟨A5,c5,rfl,_,_⟩:=aD.reads;obtain⟨aY,rfl,g4⟩:=aD.at h0;rw[aT]at g4;have g5:w5.cell? aY=some (.int .i64 f):=g4;have aU:=mk0 (aG.out.below aE);have HK5:=mk0 (HK4.out.trans (Kp.below aE));have o1:(0:Int)<((outs l2 n).length:Int):=by omega)
        |(go_at_call 91;(with_reducible refine(HI.out.fr aU.out HQ.out).mono ?_);rintro e w6⟨rfl,aQ,aI⟩;have au:Below w6.heap.size w6 (w6.alloc (.cells #[.int .i64 q.1, .int .i64 q.2.1] 126)):=eX (Below.refl _ _) _;have aF:=mk0 (aQ.below au);have HK6:=mk0 ((HK5.out.trans aI).trans (Kp.below au));have a3:=mk0 (qF w6 (.cells #[.int .i64 q.1, .int .i64 q.2.1] 126));obtain⟨⟨r0,r1,r2⟩,y5,yf⟩:=aF.out.cells;clear aQ aI au))
        clear aw ai HK2 ak aH HK3 aG HK4 az aU HK5 HT ao g4 g5 HP HF HQ p0 p1 p2 q0 q1 q2 r0 r1 r2 y5 yf o1 aT h0 ib ab eb aD aE;(have hy:Wy w1 wc B M (.string s) (.slice A1 l1.length c1) (.slice A2 l2.length c2) q.2.2 w6.heap.size q _:=⟨aF.out,HK6.out,a3.out⟩);clear aF HK6 a3;generalize w6.alloc _=wz at*;generalize w6.heap.size=b6 at*
        go_region_held3 (fun W'=>W'.cell? ⟨B,0,none⟩=some (.string s)∧W'.cell? ⟨B,1,none⟩=some (.slice A1 l1.length c1)∧W'.cell? ⟨B,2,none⟩=some (.slice A2 l2.length c2)∧W'.cell? ⟨b6,0,none⟩=some (.int .i64 q.1)∧W'.cell? ⟨b6,1,none⟩=some (.int .i64 q.2.1)∧Wy w1 wc B M (.string s) (.slice A1 l1.length c1) (.slice A2 l2.length c2) q.2.2 b6 q W')
          (first|exact Wy.conj (by with_reducible assumption)|exact Wy.conj (Wy.drew (by with_reducible assumption)))
          (first|(go_at_call 13;(with_reducible refine(qK (HD.out.below (Wy.old (by first|(with_reducible assumption)|exact Wy.drew (by with_reducible assumption)))) s q.2.1).mono ?_);rintro e w7⟨_,rfl,aX,bf⟩;obtain⟨A7,c7,rfl,_,_⟩:=aX.reads;have be:=Wy.below (by first|(with_reducible assumption)|exact Wy.drew (by with_reducible assumption)) bf;have ba:=mk0 aX;clear aX bf))
        clear hy;have bd:=mk0 be;clear be;have a9:=zm (l2:=l2) (n:=q.2.1);have a5:=bj.out q.2.1;generalize ho:outs l2 q.2.1=os at*;have an:=mk0 a9;have ar:=mk0 a5;clear a9 a5;(try go_wp2);go_loopg [10,67] (os.length) (fun kq bl bi wr=>∃i:Nat,bl= .bool ((os.take i).any (leads l2 q.1 n))∧bi= .int .i64 (i:Int)∧eD (i+kq=os.length)∧eD (Wy w1 wc B M (.string s) (.slice A1 l1.length c1) (.slice A2 l2.length c2) q.2.2 b6 q wr)∧eD (Li (.slice A7 os.length c7) os wr));case atStart=>exact⟨0,rfl,rfl,⟨by omega⟩,bd,ba⟩
        case round=>
          clear bd ba;obtain⟨i,rfl,rfl,al,HY,HL⟩:=hrel;obtain⟨q0,q1,q2,y0,y1,_⟩:=HY.out.conj;by_cases hi:i<os.length
          · obtain⟨_,rfl,_⟩:=HL.out.at hi
            have a6:=an.out os[i] (List.getElem_mem hi);obtain⟨ad,rfl,z0,z1,_,_,u2,_,_⟩:=(HD.out.below HY.out.old).DI a6;have ib:decide ((i:Int)<(os.length:Int))=true:=decide_eq_true (by omega);(have i1:(i:Int)<(os.length:Int):=by omega);(have i0:(0:Int)≤(i:Int):=by omega);(have hw:wrap64 ((i:Int)+1)=((i+1:Nat):Int):=by have:=ar.out;unfold wrap64;omega);have a0:=G8 (leads l2 q.1 n) os i hi;generalize hx:os[i]=x at*;generalize aR:(os.take i).any (leads l2 q.1 n)=bk at*;have a7:leads l2 q.1 n x=(q.1==3&&(flw l2 x).f2==3&&(flw l2 x).f1==n):=rfl;rw[a7]at a0;have aO:=mk0 a0;clear a0 a7 a6;obtain⟨_,_,_,_,_,_⟩:=(Wy.below HY.out (eX (Below.refl wr.heap.size wr) (.cells #[.int .i64 (flw l2 x).f0, .int .i64 (flw l2 x).f1, .int .i64 (flw l2 x).f2, .int .i64 (flw l2 x).f3, .string (flw l2 x).f4] 40))).conj;cases bk with
            |true=>
              (have HE:eD ((os.take (i+1)).any (leads l2 q.1 n)=true):=⟨by rw[aO.out];rfl⟩);go_wp2;go_roundg (gk-1);(case measure=>have:=al.out;omega);case rel=>exact⟨i+1,by rw[HE.out],by rw[hw],⟨by have:=al.out;omega⟩,⟨Wy.below HY.out (eX (Below.refl _ _) _)⟩,⟨HL.out.kept (Kp.below (eX (Below.refl _ _) _))⟩⟩
            |false=>
              by_cases h3:q.1=3
              · have b3:(q.1==3)=true:=beq_iff_eq.mpr h3
                by_cases h4:(flw l2 x).f2=3
                · have b4:((flw l2 x).f2==3)=true:=beq_iff_eq.mpr h4
                  by_cases h5:(flw l2 x).f1=n
                  · have b5:((flw l2 x).f1==n)=true:=beq_iff_eq.mpr h5
                    (have HE:eD ((os.take (i+1)).any (leads l2 q.1 n)=true):=⟨by rw[aO.out,b3,b4,b5];rfl⟩);clear h3 h4 h5;go_wp2;go_roundg (gk-1);(case measure=>have:=al.out;omega);case rel=>exact⟨i+1,by rw[HE.out],by rw[hw],⟨by have:=al.out;omega⟩,⟨Wy.below HY.out (eX (Below.refl _ _) _)⟩,⟨HL.out.kept (Kp.below (eX (Below.refl _ _) _))⟩⟩
                  · have b5:((flw l2 x).f1==n)=false:=beq_eq_false_iff_ne.mpr h5
                    (have HE:eD ((os.take (i+1)).any (leads l2 q.1 n)=false):=⟨by rw[aO.out,b3,b4,b5];rfl⟩);clear h3 h4 h5;go_wp2;go_roundg (gk-1);(case measure=>have:=al.out;omega);case rel=>exact⟨i+1,by rw[HE.out],by rw[hw],⟨by have:=al.out;omega⟩,⟨Wy.below HY.out (eX (Below.refl _ _) _)⟩,⟨HL.out.kept (Kp.below (eX (Below.refl _ _) _))⟩⟩
                · have b4:((flw l2 x).f2==3)=false:=beq_eq_false_iff_ne.mpr h4
                  (have HE:eD ((os.take (i+1)).any (leads l2 q.1 n)=false):=⟨by rw[aO.out,b3,b4];rfl⟩);clear h3 h4;go_wp2;go_roundg (gk-1);(case measure=>have:=al.out;omega);case rel=>exact⟨i+1,by rw[HE.out],by rw[hw],⟨by have:=al.out;omega⟩,⟨Wy.below HY.out (eX (Below.refl _ _) _)⟩,⟨HL.out.kept (Kp.below (eX (Below.refl _ _) _))⟩⟩
              · have b3:(q.1==3)=false:=beq_eq_false_iff_ne.mpr h3
                (have HE:eD ((os.take (i+1)).any (leads l2 q.1 n)=false):=⟨by rw[aO.out,b3];rfl⟩);clear h3;go_wp2;go_roundg (gk-1);(case measure=>have:=al.out;omega);case rel=>exact⟨i+1,by rw[HE.out],by rw[hw],⟨by have:=al.out;omega⟩,⟨Wy.below HY.out (eX (Below.refl _ _) _)⟩,⟨HL.out.kept (Kp.below (eX (Below.refl _ _) _))⟩⟩
          · have ib:decide ((i:Int)<(os.length:Int))=false:=decide_eq_false (by omega)
            have bm:decide (i<os.length)=false:=decide_eq_false hi;have ei:os.take i=os:=List.take_of_length_le (by omega);rw[ei];clear hi ei al;have hr:Ay l2 n W.l.length os (again l2 os) q=some r:=HH.out;clear HH;generalize aR:os.any (leads l2 q.1 n)=bk at*;cases bk with
            |false=>
              unfold Ay at hr;rw[if_neg (by rw[aR];decide)]at hr;cases hr;clear aR;have aa:=mk0 HY.out.1;have ag:=mk0 HY.out.2.1;go_wp2_with(go_at_call 67;(with_reducible refine(qy 20 aa.out).mono ?_);rintro e aC⟨rfl,D,G⟩;have Y:=mk0 D;have HK10:=mk0 (ag.out.trans G);clear D G);go_ret;exact⟨rfl,Y.out,HK10.out⟩
            |true=>
              have HR:=mk0 hr;have a1:=mk0 aR;clear hr aR;go_wp2;have hy:=HY.out
              go_region_held3 (fun W'=>W'.cell? ⟨B,0,none⟩=some (.string s)∧W'.cell? ⟨B,1,none⟩=some (.slice A1 l1.length c1)∧W'.cell? ⟨B,2,none⟩=some (.slice A2 l2.length c2)∧W'.cell? ⟨b6,0,none⟩=some (.int .i64 q.1)∧W'.cell? ⟨b6,1,none⟩=some (.int .i64 q.2.1)∧Wy w1 wc B M (.string s) (.slice A1 l1.length c1) (.slice A2 l2.length c2) q.2.2 b6 q W')
                (first|exact Wy.conj (by with_reducible assumption)|exact Wy.conj (Wy.drew (by with_reducible assumption)))
                (first|(go_at_call 13;(with_reducible refine(qK (HD.out.below (Wy.old (by first|(with_reducible assumption)|exact Wy.drew (by with_reducible assumption)))) s q.2.1).mono ?_);rintro e w8⟨_,rfl,aV,a4⟩;rw[ho]at aV;obtain⟨A8,c8,rfl,_,_⟩:=aV.reads;have a8:=Wy.below (by first|(with_reducible assumption)|exact Wy.drew (by with_reducible assumption)) a4;have aM:=mk0 aV;clear aV a4))
              have ap:=mk0 a8;clear hy a8 HY HL;have am:=mk0 (HD.out.below ap.out.old);obtain⟨q0,q1,q2,y0,y1,_⟩:=ap.out.conj;have hr:=HR.out;by_cases hl:os.length=2
              · have lb:((os.length:Int) !=2)=false:=bne_eq_false_iff_eq.mpr (by omega)
                by_cases av:(again l2 os).length=1
                · have bb:(((again l2 os).length:Int) !=1)=false:=bne_eq_false_iff_eq.mpr (by omega)
                  obtain⟨f1,f2,rfl⟩:=CJ hl;obtain⟨g,hg⟩:=Cm av;have HG:=mk0 hg;(have ah:eD (Li (.slice A8 2 c8) [f1,f2] w8):=⟨aM.out⟩);unfold Ay at hr;rw[if_pos a1.out,hg]at hr;rw[hg]at bb;dsimp only at hr;by_cases aB:f1=g
                  · have gb:(f1==g)=true:=beq_iff_eq.mpr aB
                    rw[if_pos aB]at hr;clear aB;have aK:=mk0 (an.out f2 (by simp));by_cases hk:(flw l2 f2).f2=0
                    · have kb:((flw l2 f2).f2 !=0)=false:=bne_eq_false_iff_eq.mpr hk
                      rw[if_pos hk]at hr;obtain⟨w2,aP,aA⟩:=Option.bind_eq_some_iff.mp hr;cases aA;have aZ:=mk0 aP;clear hl av HR hk hr aP hg;go_wp2_with(first|(go_at_call 70;(with_reducible refine(rO am.out s ah.out ar.out an.out).mono ?_);rintro e w9⟨v9,rfl,I,U⟩;rw[HG.out]at I;obtain⟨A9,c9,rfl,_,_⟩:=I.reads;have L:=mk0 (Wy.below ap.out U);have aa:=mk0 L.out.1;have ag:=mk0 L.out.2.1;have X:=mk0 (ah.out.kept (Kp.below U));obtain⟨af,rfl,n0⟩:=X.out.at (j:=0) (show 0<2 by decide);obtain⟨_,e8,n1⟩:=X.out.at (j:=1) (show 1<2 by decide);cases e8;obtain⟨ay,rfl,n2⟩:=I.at (j:=0) (show 0<1 by decide);have n3:w9.cell? af=some (.int .i64 f1):=n0;have n4:w9.cell? ay=some (.int .i64 g):=n2;have n5:w9.cell? ⟨af.block,af.off+1,none⟩=some (.int .i64 f2):=n1;obtain⟨ad,rfl,z0,z1,_,_,u2,_,_⟩:=(HD.out.below L.out.old).DI aK.out;obtain⟨⟨x0,x1,x2⟩,_,_⟩:=aa.out.cells;have x3:w9.cell? ⟨b6,1,none⟩=some (.int .i64 q.2.1):=(iF L.out.2.2 1).trans rfl;clear I U)|(go_at_call 137;(with_reducible refine(xG W.l.length q.2.1 aa.out aZ.out).mono ?_);rintro e aC⟨rfl,D,G⟩;have Y:=mk0 D;have HK10:=mk0 (ag.out.trans G);clear D G));go_ret;exact⟨rfl,Y.out,HK10.out⟩
                    · have kb:((flw l2 f2).f2 !=0)=true:=bne_iff_ne.mpr hk
                      rw[if_neg hk]at hr;cases hr;clear hl av HR hk hg;go_wp2_with(first|(go_at_call 70;(with_reducible refine(rO am.out s ah.out ar.out an.out).mono ?_);rintro e w9⟨v9,rfl,I,U⟩;rw[HG.out]at I;obtain⟨A9,c9,rfl,_,_⟩:=I.reads;have L:=mk0 (Wy.below ap.out U);have aa:=mk0 L.out.1;have ag:=mk0 L.out.2.1;have X:=mk0 (ah.out.kept (Kp.below U));obtain⟨af,rfl,n0⟩:=X.out.at (j:=0) (show 0<2 by decide);obtain⟨_,e8,n1⟩:=X.out.at (j:=1) (show 1<2 by decide);cases e8;obtain⟨ay,rfl,n2⟩:=I.at (j:=0) (show 0<1 by decide);have n3:w9.cell? af=some (.int .i64 f1):=n0;have n4:w9.cell? ay=some (.int .i64 g):=n2;have n5:w9.cell? ⟨af.block,af.off+1,none⟩=some (.int .i64 f2):=n1;obtain⟨ad,rfl,z0,z1,_,_,u2,_,_⟩:=(HD.out.below L.out.old).DI aK.out;obtain⟨⟨x0,x1,x2⟩,_,_⟩:=aa.out.cells;have x3:w9.cell? ⟨b6,1,none⟩=some (.int .i64 q.2.1):=(iF L.out.2.2 1).trans rfl;clear I U)|(go_at_call 67;(with_reducible refine(qy 18 aa.out).mono ?_);rintro e aC⟨rfl,D,G⟩;have Y:=mk0 D;have HK10:=mk0 (ag.out.trans G);clear D G));go_ret;exact⟨rfl,Y.out,HK10.out⟩
                  · have gb:(f1==g)=false:=beq_eq_false_iff_ne.mpr aB
                    rw[if_neg aB]at hr;clear aB;have aK:=mk0 (an.out f1 (by simp));by_cases hk:(flw l2 f1).f2=0
                    · have kb:((flw l2 f1).f2 !=0)=false:=bne_eq_false_iff_eq.mpr hk
                      rw[if_pos hk]at hr;obtain⟨w2,aP,aA⟩:=Option.bind_eq_some_iff.mp hr;cases aA;have aZ:=mk0 aP;clear hl av HR hk hr aP hg;go_wp2_with(first|(go_at_call 70;(with_reducible refine(rO am.out s ah.out ar.out an.out).mono ?_);rintro e w9⟨v9,rfl,I,U⟩;rw[HG.out]at I;obtain⟨A9,c9,rfl,_,_⟩:=I.reads;have L:=mk0 (Wy.below ap.out U);have aa:=mk0 L.out.1;have ag:=mk0 L.out.2.1;have X:=mk0 (ah.out.kept (Kp.below U));obtain⟨af,rfl,n0⟩:=X.out.at (j:=0) (show 0<2 by decide);obtain⟨_,e8,n1⟩:=X.out.at (j:=1) (show 1<2 by decide);cases e8;obtain⟨ay,rfl,n2⟩:=I.at (j:=0) (show 0<1 by decide);have n3:w9.cell? af=some (.int .i64 f1):=n0;have n4:w9.cell? ay=some (.int .i64 g):=n2;have n5:w9.cell? ⟨af.block,af.off+1,none⟩=some (.int .i64 f2):=n1;obtain⟨ad,rfl,z0,z1,_,_,u2,_,_⟩:=(HD.out.below L.out.old).DI aK.out;obtain⟨⟨x0,x1,x2⟩,_,_⟩:=aa.out.cells;have x3:w9.cell? ⟨b6,1,none⟩=some (.int .i64 q.2.1):=(iF L.out.2.2 1).trans rfl;clear I U)|(go_at_call 137;(with_reducible refine(xG W.l.length q.2.1 aa.out aZ.out).mono ?_);rintro e aC⟨rfl,D,G⟩;have Y:=mk0 D;have HK10:=mk0 (ag.out.trans G);clear D G));go_ret;exact⟨rfl,Y.out,HK10.out⟩
                    · have kb:((flw l2 f1).f2 !=0)=true:=bne_iff_ne.mpr hk
                      rw[if_neg hk]at hr;cases hr;clear hl av HR hk hg;go_wp2_with(first|(go_at_call 70;(with_reducible refine(rO am.out s ah.out ar.out an.out).mono ?_);rintro e w9⟨v9,rfl,I,U⟩;rw[HG.out]at I;obtain⟨A9,c9,rfl,_,_⟩:=I.reads;have L:=mk0 (Wy.below ap.out U);have aa:=mk0 L.out.1;have ag:=mk0 L.out.2.1;have X:=mk0 (ah.out.kept (Kp.below U));obtain⟨af,rfl,n0⟩:=X.out.at (j:=0) (show 0<2 by decide);obtain⟨_,e8,n1⟩:=X.out.at (j:=1) (show 1<2 by decide);cases e8;obtain⟨ay,rfl,n2⟩:=I.at (j:=0) (show 0<1 by decide);have n3:w9.cell? af=some (.int .i64 f1):=n0;have n4:w9.cell? ay=some (.int .i64 g):=n2;have n5:w9.cell? ⟨af.block,af.off+1,none⟩=some (.int .i64 f2):=n1;obtain⟨ad,rfl,z0,z1,_,_,u2,_,_⟩:=(HD.out.below L.out.old).DI aK.out;obtain⟨⟨x0,x1,x2⟩,_,_⟩:=aa.out.cells;have x3:w9.cell? ⟨b6,1,none⟩=some (.int .i64 q.2.1):=(iF L.out.2.2 1).trans rfl;clear I U)|(go_at_call 67;(with_reducible refine(qy 18 aa.out).mono ?_);rintro e aC⟨rfl,D,G⟩;have Y:=mk0 D;have HK10:=mk0 (ag.out.trans G);clear D G));go_ret;exact⟨rfl,Y.out,HK10.out⟩
                · have bb:(((again l2 os).length:Int) !=1)=true:=bne_iff_ne.mpr (by omega)
                  rw[Eh a1.out (fun h=>av h.2)]at hr;cases hr;clear hl av HR;go_wp2_with(first|(go_at_call 70;(with_reducible refine(rO am.out s aM.out ar.out an.out).mono ?_);rintro e w9⟨v9,rfl,I,U⟩;obtain⟨A9,c9,rfl,_,_⟩:=I.reads;have L:=mk0 (Wy.below ap.out U);have aa:=mk0 L.out.1;have ag:=mk0 L.out.2.1;have X:=mk0 (aM.out.kept (Kp.below U));have bh:=mk0 I;clear I U)|(go_at_call 67;(with_reducible refine(qy 18 aa.out).mono ?_);rintro e aC⟨rfl,D,G⟩;have Y:=mk0 D;have HK10:=mk0 (ag.out.trans G);clear D G));go_ret;exact⟨rfl,Y.out,HK10.out⟩
              · have lb:((os.length:Int) !=2)=true:=bne_iff_ne.mpr (by omega)
                rw[Eh a1.out (fun h=>hl h.1)]at hr;cases hr;clear hl HR;go_wp2_with(first|(go_at_call 70;(with_reducible refine(rO am.out s aM.out ar.out an.out).mono ?_);rintro e w9⟨v9,rfl,I,U⟩;obtain⟨A9,c9,rfl,_,_⟩:=I.reads;have L:=mk0 (Wy.below ap.out U);have aa:=mk0 L.out.1;have ag:=mk0 L.out.2.1;have X:=mk0 (aM.out.kept (Kp.below U));have bh:=mk0 I;clear I U)|(go_at_call 67;(with_reducible refine(qy 18 aa.out).mono ?_);rintro e aC⟨rfl,D,G⟩;have Y:=mk0 D;have HK10:=mk0 (ag.out.trans G);clear D G));go_ret;exact⟨rfl,Y.out,HK10.out⟩
    · have ab:(((again l2 (ins l2 n)).length:Int) !=1)=true:=bne_iff_ne.mpr (by omega)
      rw[if_neg (fun h=>ha h.2)]at hr;cases hr;clear hi ha;go_enter Tryz.func115,Tryz.ntmps115
      go_wp2_with(first
        |(go_at_call 51;(with_reducible refine(uJ ao.out s n).mono ?_);rintro e w2⟨v2,rfl,ae,Z⟩;obtain⟨Ai,ci,rfl,_,_⟩:=ae.reads;have aw:=mk0 ae;have ai:=mk0 (HT.out.below Z);have HK2:=mk0 (Kp.below Z);have ak:=mk0 (ao.out.below Z);obtain⟨⟨p0,p1,p2⟩,_,_⟩:=ai.out.cells;clear ae Z)
        |(go_at_call 70;(with_reducible refine(rO ak.out s aw.out aW.out Al).mono ?_);rintro e w3⟨v3,rfl,aq,aj⟩;obtain⟨A3,c3,rfl,_,_⟩:=aq.reads;have aH:=mk0 (ai.out.below aj);have HK3:=mk0 (HK2.out.trans (Kp.below aj));clear aq aj)
        |(go_at_call 67;(with_reducible refine(qy 20 aH.out).mono ?_);rintro e w7⟨rfl,aL,aJ⟩;have a2:=mk0 aL;have HK7:=mk0 (HK3.out.trans aJ);clear aL aJ))
      go_ret;exact⟨rfl,a2.out,HK7.out⟩
  · have ib:(((ins l2 n).length:Int) !=2)=true:=bne_iff_ne.mpr (by omega)
    rw[if_neg (fun h=>hi h.1)]at hr;cases hr;clear hi;go_enter Tryz.func115,Tryz.ntmps115
    go_wp2_with(first
        |(go_at_call 51;(with_reducible refine(uJ ao.out s n).mono ?_);rintro e w2⟨v2,rfl,ae,Z⟩;obtain⟨Ai,ci,rfl,_,_⟩:=ae.reads;have aw:=mk0 ae;have ai:=mk0 (HT.out.below Z);have HK2:=mk0 (Kp.below Z);have ak:=mk0 (ao.out.below Z);obtain⟨⟨p0,p1,p2⟩,_,_⟩:=ai.out.cells;clear ae Z)
        |(go_at_call 67;(with_reducible refine(qy 20 ai.out).mono ?_);rintro e w7⟨rfl,aL,aJ⟩;have a2:=mk0 aL;have HK7:=mk0 (HK2.out.trans aJ);clear aL aJ))
    go_ret;exact⟨rfl,a2.out,HK7.out⟩
theorem Da(l2:List S40)(kd:Int)(fs:List Int)(i:Nat)(h:i<fs.length):uZ l2 kd (fs.take (i+1))=uZ l2 kd (fs.take i)+(if(flw l2 fs[i]).f2=kd then 1 else 0):=by
  unfold uZ;rw[List.take_succ_eq_append_getElem h,List.countP_append,List.countP_singleton];by_cases e:(flw l2 fs[i]).f2=kd
  · rw[if_pos e,if_pos (by simpa using e)]
  · rw[if_neg e,if_neg (by simpa using e)]
theorem CG(l2:List S40)(kd:Int)(fs:List Int)(i:Nat):uZ l2 kd (fs.take i)≤fs.length:=Nat.le_trans List.countP_le_length (by rw[List.length_take];omega)
theorem Dk {w1:World} {B M:Nat} {s:ByteArray} {A1 A2:Option Addr} {c1 c2:Nat} {l1:List S38} {l2:List S40} (hd:Df w1 A1 c1 l1 A2 c2 l2) {k:Nat}
    (ih:∀j,j<k→Told w1 B M (.string s) (.slice A1 l1.length c1) (.slice A2 l2.length c2) l1 l2 j) (n d:Int) {W:Wk} {r:Int×Int×Wk} {wc:World} (h:Wt w1 B M (.string s) (.slice A1 l1.length c1) (.slice A2 l2.length c2) W wc) (Y:wk l1 l2 k (.blk n d) W=some r):
    Calls Tryz.prog 114 #[.pointer (some ⟨B,0,none⟩), .int .i64 n, .int .i64 d] wc fun e w'=>e= .returned (.int .i64 r.1)∧Wt w1 B M (.string s) (.slice A1 l1.length c1) (.slice A2 l2.length c2) r.2.2 w'∧Kp wc w':=by
  cases k with
  |zero=>cases Y
  |succ j=>
  have HD:=mk0 hd;have HI:=mk0 (ih j (Nat.lt_succ_self j));have hz:Wz w1 wc B M (.string s) (.slice A1 l1.length c1) (.slice A2 l2.length c2) W wc:=⟨h,Kp.refl _⟩
  have ax:eD ((outs l2 n).length≤1000000):=⟨by have:=xS (fun y:S40=>y.f0==n) l2 0;have:=hd.n2;unfold outs;omega⟩
  have a9:=mk0 (zm (l2:=l2) (n:=n));unfold wk at Y;have HR:=mk0 Y;clear hd ih Y h;go_enter Tryz.func114,Tryz.ntmps114;go_wp2
  go_region_held3 (fun W'=>W'.cell? ⟨B,0,none⟩=some (.string s)∧W'.cell? ⟨B,1,none⟩=some (.slice A1 l1.length c1)∧W'.cell? ⟨B,2,none⟩=some (.slice A2 l2.length c2)∧Wz w1 wc B M (.string s) (.slice A1 l1.length c1) (.slice A2 l2.length c2) W W')
    (first|exact Wz.conj (by with_reducible assumption)|exact Wz.conj (Wz.drew (by with_reducible assumption)))
    (first|(go_at_call 13;(with_reducible refine(qK (HD.out.below (Wz.old (by first|(with_reducible assumption)|exact Wz.drew (by with_reducible assumption)))) s n).mono ?_);rintro e w3⟨_,rfl,aG,aJ⟩;obtain⟨A,c,rfl,_,_⟩:=aG.reads;have a7:=Wz.below (by first|(with_reducible assumption)|exact Wz.drew (by with_reducible assumption)) aJ;have aO:=mk0 aG;clear aG aJ)|(go_at_call 48;(with_reducible refine(rA (HD.out.below (Wz.old (by first|(with_reducible assumption)|exact Wz.drew (by with_reducible assumption)))) s n).mono ?_);rintro e w4⟨rfl,aF⟩;have aD:=Wz.below (by first|(with_reducible assumption)|exact Wz.drew (by with_reducible assumption)) aF;have an:=mk0 (aO.out.kept (Kp.below aF));clear aF))
  have aj:=mk0 aD.1;have HK4:=mk0 aD.2;clear hz a7 aD aO;generalize ho:outs l2 n=D at*;generalize bc:iC l1 n=kd at*;have Y:=HR.out;clear HR ho bc;refine if k5:kd=5 then ?p5 else ?q5
  case' p5=>
    have a6:(kd==5)=true:=beq_iff_eq.mpr k5;go_wp2;go_loopg [10,11,35] (D.length) (fun kq aS aV aZ wr=>∃i:Nat,aS= .int .i64 (uZ l2 2 (D.take i):Int)∧aV= .int .i64 (uZ l2 1 (D.take i):Int)∧aZ= .int .i64 (i:Int)∧eD (i+kq=D.length)∧eD (Wt w1 B M (.string s) (.slice A1 l1.length c1) (.slice A2 l2.length c2) W wr)∧eD (Kp wc wr)∧eD (Li (.slice A D.length c) D wr));case atStart=>exact⟨0,rfl,rfl,rfl,⟨by omega⟩,aj,HK4,an⟩
    case' round=>
      clear aj HK4 an;obtain⟨i,rfl,rfl,rfl,ai,aj,HK4,an⟩:=hrel;refine if hi:i<D.length then ?ri else ?re
      case ri=>
        obtain⟨a3,rfl,g7⟩:=an.out.at hi;have aH:=a9.out D[i] (List.getElem_mem hi);obtain⟨_,rfl,_,_,_,_⟩:=(HD.out.below aj.out.old).flow aH;obtain⟨⟨q0,q1,q2⟩,_,_⟩:=aj.out.cells;have ib:decide ((i:Int)<(D.length:Int))=true:=decide_eq_true (by omega);(have i1:(i:Int)<(D.length:Int):=by omega);(have i0:(0:Int)≤(i:Int):=by omega);(have hw:wrap64 ((i:Int)+1)=((i+1:Nat):Int):=by have:=ax.out;unfold wrap64;omega);have s1:=mk0 (Da l2 1 D i hi);have s2:=mk0 (Da l2 2 D i hi);have b1:=CG l2 1 D i;have b2:=CG l2 2 D i;(have a1:wrap64 ((uZ l2 1 (D.take i):Int)+1)=((uZ l2 1 (D.take i)+1:Nat):Int):=by have:=ax.out;unfold wrap64;omega);(have aU:wrap64 ((uZ l2 2 (D.take i):Int)+1)=((uZ l2 2 (D.take i)+1:Nat):Int):=by have:=ax.out;unfold wrap64;omega);clear b1 b2 aH Y k5;generalize hx:D[i]=x at*;by_cases x2:(flw l2 x).f2=2
        · have aX:((flw l2 x).f2==2)=true:=beq_iff_eq.mpr x2
          (have E1:eD (uZ l2 1 (D.take (i+1))=uZ l2 1 (D.take i)):=⟨by rw[s1.out,if_neg (by omega)];rfl⟩);(have E2:eD (uZ l2 2 (D.take (i+1))=uZ l2 2 (D.take i)+1):=⟨by rw[s2.out,if_pos x2]⟩);clear x2;go_wp2;go_roundg (gk-1);(case measure=>have:=ai.out;omega);case rel=>exact⟨i+1,by rw[E2.out,aU],by rw[E1.out],by rw[hw],⟨by have:=ai.out;omega⟩,aj,HK4,an⟩
        · have aX:((flw l2 x).f2==2)=false:=beq_eq_false_iff_ne.mpr x2
          (have E2:eD (uZ l2 2 (D.take (i+1))=uZ l2 2 (D.take i)):=⟨by rw[s2.out,if_neg x2];rfl⟩);by_cases x1:(flw l2 x).f2=1
          · have a0:((flw l2 x).f2==1)=true:=beq_iff_eq.mpr x1
            (have E1:eD (uZ l2 1 (D.take (i+1))=uZ l2 1 (D.take i)+1):=⟨by rw[s1.out,if_pos x1]⟩);clear x1 x2;go_wp2;go_roundg (gk-1);(case measure=>have:=ai.out;omega);case rel=>exact⟨i+1,by rw[E2.out],by rw[E1.out,a1],by rw[hw],⟨by have:=ai.out;omega⟩,aj,HK4,an⟩
          · have a0:((flw l2 x).f2==1)=false:=beq_eq_false_iff_ne.mpr x1
            (have E1:eD (uZ l2 1 (D.take (i+1))=uZ l2 1 (D.take i)):=⟨by rw[s1.out,if_neg x1];rfl⟩);clear x1 x2;go_wp2;go_roundg (gk-1);(case measure=>have:=ai.out;omega);case rel=>exact⟨i+1,by rw[E2.out],by rw[E1.out],by rw[hw],⟨by have:=ai.out;omega⟩,aj,HK4,an⟩
      case' re=>
        have ib:decide ((i:Int)<(D.length:Int))=false:=decide_eq_false (by omega);have bb:decide (i<D.length)=false:=decide_eq_false hi;have ei:D.take i=D:=List.take_of_length_le (by omega);rw[ei];clear hi ei ai;(have be:wrap64 ((D.length:Int)-1)=(D.length:Int)-1:=by have:=ax.out;unfold wrap64;omega);refine if n1:uZ l2 1 D=1 then ?c1 else ?d1
        case d1=>
          have nb:((uZ l2 1 D:Int) !=1)=true:=bne_iff_ne.mpr (by omega);rw[if_pos ⟨k5,fun h=>n1 h.1⟩]at Y;cases Y;clear n1 k5;go_wp2_with(go_at_call 67;(with_reducible refine(qy 18 aj.out).mono ?_);rintro e w7⟨rfl,L,G⟩;have ar:=mk0 L;have HK7:=mk0 (HK4.out.trans G);clear L G);go_ret;exact⟨rfl,ar.out,HK7.out⟩
        case' c1=>
          have nb:((uZ l2 1 D:Int) !=1)=false:=bne_eq_false_iff_eq.mpr (by omega);refine if n2:(uZ l2 2 D:Int)=(D.length:Int)-1 then ?c2 else ?d2
          case d2=>
            have a4:((uZ l2 2 D:Int) !=(D.length:Int)-1)=true:=bne_iff_ne.mpr n2;rw[if_pos ⟨k5,fun h=>n2 h.2⟩]at Y;cases Y;clear n1 n2 k5;go_wp2_with(go_at_call 67;(with_reducible refine(qy 18 aj.out).mono ?_);rintro e w7⟨rfl,L,G⟩;have ar:=mk0 L;have HK7:=mk0 (HK4.out.trans G);clear L G);go_ret;exact⟨rfl,ar.out,HK7.out⟩
          case' c2=>
            have a4:((uZ l2 2 D:Int) !=(D.length:Int)-1)=false:=bne_eq_false_iff_eq.mpr n2;rw[if_neg (fun h=>h.2 ⟨n1,n2⟩),if_pos k5]at Y;obtain⟨Wp,hp,ao⟩:=Option.bind_eq_some_iff.mp Y;obtain⟨b,hb,ap⟩:=Option.bind_eq_some_iff.mp ao;have HP:=mk0 hp;have HB:=mk0 hb;have HR:=mk0 ap;clear hp hb Y ao ap n1 n2 k5;go_upto_region 17 with(fail)
  case' q5=>
    have a6:(kd==5)=false:=beq_eq_false_iff_ne.mpr k5;rw[if_neg (fun h=>k5 h.1),if_neg k5]at Y;obtain⟨Wp,hp,ao⟩:=Option.bind_eq_some_iff.mp Y;obtain⟨b,hb,ap⟩:=Option.bind_eq_some_iff.mp ao;have HP:=mk0 hp;have HB:=mk0 hb;have HR:=mk0 ap;clear hp hb Y ao ap k5;go_upto_region 17 with(fail)
  all_goals
    go_wp2_with(go_at_call 90;(with_reducible refine(kS _ n 0 d aj.out HP.out).mono ?_);rintro e w5⟨rfl,aP,aE⟩;have ah:=mk0 aP;have HK5:=mk0 (HK4.out.trans aE);have am:=mk0 (an.out.kept aE);clear aP aE)
    go_loopg [15,76] (D.length) (fun kq aT aW wr=>∃(i:Nat) (jn:Int) (W':Wk),aT= .int .i64 jn∧aW= .int .i64 (i:Int)∧eD (i+kq=D.length)∧eD (branch (wk l1 l2 j) d (D.drop i) (decide (i=0)) jn W'=some b)∧eD (Wt w1 B M (.string s) (.slice A1 l1.length c1) (.slice A2 l2.length c2) W' wr)∧eD (Kp wc wr)∧eD (Li (.slice A D.length c) D wr))
    case atStart=>exact⟨0,0,Wp,rfl,rfl,⟨by omega⟩,HB,ah,HK5,am⟩
    case round=>
      clear HB ah HK5 am aj HK4 an;obtain⟨i,jn,W',rfl,rfl,ai,HB,ah,HK5,am⟩:=hrel;by_cases hi:i<D.length
      · obtain⟨a3,rfl,g7⟩:=am.out.at hi
        have ib:decide ((i:Int)<(D.length:Int))=true:=decide_eq_true (by omega);(have i1:(i:Int)<(D.length:Int):=by omega);(have i0:(0:Int)≤(i:Int):=by omega);(have hw:wrap64 ((i:Int)+1)=((i+1:Nat):Int):=by have:=ax.out;unfold wrap64;omega);have hb:=HB.out;rw[List.drop_eq_getElem_cons hi,branch]at hb;obtain⟨_,aI,aM⟩:=Option.bind_eq_some_iff.mp hb;obtain⟨q,aQ,ag⟩:=Option.bind_eq_some_iff.mp aM;generalize hx:D[i]=x at*;have az:=mk0 aI;have aA:=mk0 aQ;have Y:=HR.out;clear hb aM aI aQ HB hx HR;by_cases he:q.2.2.e≠0
        · have eb:(q.2.2.e !=0)=true:=bne_iff_ne.mpr he
          rw[if_pos he]at ag;cases ag;rw[if_pos rfl]at Y;cases Y;clear he;go_wp2_with(first|(go_at_call 90;(with_reducible refine(kS 8 x 0 (wrap64 (d+1)) ah.out az.out).mono ?_);rintro e w6⟨rfl,ab,U⟩;have X:=mk0 ab;have HK6:=mk0 (HK5.out.trans U);have al:=mk0 (am.out.kept U);clear ab U)|(go_at_call 91;(with_reducible refine(HI.out.fr X.out aA.out).mono ?_);rintro e w7⟨rfl,L,G⟩;have I:Below w7.heap.size w7 (w7.alloc (.cells #[.int .i64 q.1, .int .i64 q.2.1] 126)):=eX (Below.refl _ _) _;have ae:=mk0 (L.below I);have HK8:=mk0 ((HK6.out.trans G).trans (Kp.below I));have av:=mk0 ((al.out.kept G).kept (Kp.below I));obtain⟨_,y5,yf⟩:=ae.out.cells;clear L G I));go_ret;exact⟨rfl,ae.out,HK8.out⟩
        · have eb:(q.2.2.e !=0)=false:=bne_eq_false_iff_eq.mpr (by simpa using he)
          rw[if_neg he]at ag;clear he;by_cases h2:q.1=2
          · have a8:(q.1 !=2)=false:=bne_eq_false_iff_eq.mpr h2
            by_cases hz:i=0
            · have zb:decide ((0:Int)<(i:Int))=false:=decide_eq_false (by omega)
              have bd:decide (0<i)=false:=decide_eq_false (by omega);rw[if_pos ⟨h2,Or.inl (decide_eq_true hz)⟩]at ag;(have HB:eD (branch (wk l1 l2 j) d (D.drop (i+1)) (decide (i+1=0)) q.2.1 q.2.2=some b):=⟨by rw[show decide (i+1=0)=false from decide_eq_false (by omega)];exact ag⟩);clear h2 hz ag;have HR:=mk0 Y;clear Y;go_wp2_with(first|(go_at_call 90;(with_reducible refine(kS 8 x 0 (wrap64 (d+1)) ah.out az.out).mono ?_);rintro e w6⟨rfl,ab,U⟩;have X:=mk0 ab;have HK6:=mk0 (HK5.out.trans U);have al:=mk0 (am.out.kept U);clear ab U)|(go_at_call 91;(with_reducible refine(HI.out.fr X.out aA.out).mono ?_);rintro e w7⟨rfl,L,G⟩;have I:Below w7.heap.size w7 (w7.alloc (.cells #[.int .i64 q.1, .int .i64 q.2.1] 126)):=eX (Below.refl _ _) _;have ae:=mk0 (L.below I);have HK8:=mk0 ((HK6.out.trans G).trans (Kp.below I));have av:=mk0 ((al.out.kept G).kept (Kp.below I));obtain⟨_,y5,yf⟩:=ae.out.cells;clear L G I));go_roundg (gk-1);(case measure=>have:=ai.out;omega);case rel=>exact⟨i+1,q.2.1,q.2.2,rfl,by rw[hw],⟨by have:=ai.out;omega⟩,HB,ae,HK8,av⟩
            · have zb:decide ((0:Int)<(i:Int))=true:=decide_eq_true (by omega)
              have bd:decide (0<i)=true:=decide_eq_true (by omega);by_cases hj:q.2.1=jn
              · have jb:(q.2.1 !=jn)=false:=bne_eq_false_iff_eq.mpr hj
                rw[if_pos ⟨h2,Or.inr hj⟩]at ag;(have HB:eD (branch (wk l1 l2 j) d (D.drop (i+1)) (decide (i+1=0)) q.2.1 q.2.2=some b):=⟨by rw[show decide (i+1=0)=false from decide_eq_false (by omega)];exact ag⟩);clear h2 hz ag hj Y;go_wp2_with(first|(go_at_call 90;(with_reducible refine(kS 8 x 0 (wrap64 (d+1)) ah.out az.out).mono ?_);rintro e w6⟨rfl,ab,U⟩;have X:=mk0 ab;have HK6:=mk0 (HK5.out.trans U);have al:=mk0 (am.out.kept U);clear ab U)|(go_at_call 91;(with_reducible refine(HI.out.fr X.out aA.out).mono ?_);rintro e w7⟨rfl,L,G⟩;have I:Below w7.heap.size w7 (w7.alloc (.cells #[.int .i64 q.1, .int .i64 q.2.1] 126)):=eX (Below.refl _ _) _;have ae:=mk0 (L.below I);have HK8:=mk0 ((HK6.out.trans G).trans (Kp.below I));have av:=mk0 ((al.out.kept G).kept (Kp.below I));obtain⟨_,y5,yf⟩:=ae.out.cells;clear L G I));go_roundg (gk-1);(case measure=>have:=ai.out;omega);case rel=>exact⟨i+1,q.2.1,q.2.2,rfl,by rw[hw],⟨by have:=ai.out;omega⟩,HB,ae,HK8,av⟩
              · have jb:(q.2.1 !=jn)=true:=bne_iff_ne.mpr hj
                rw[if_neg (fun h=>h.2.elim (fun h=>hz (of_decide_eq_true h)) hj)]at ag;cases ag;rw[if_pos rfl]at Y;cases Y;clear h2 hz hj;go_wp2_with(first|(go_at_call 90;(with_reducible refine(kS 8 x 0 (wrap64 (d+1)) ah.out az.out).mono ?_);rintro e w6⟨rfl,ab,U⟩;have X:=mk0 ab;have HK6:=mk0 (HK5.out.trans U);have al:=mk0 (am.out.kept U);clear ab U)|(go_at_call 91;(with_reducible refine(HI.out.fr X.out aA.out).mono ?_);rintro e w7⟨rfl,L,G⟩;have I:Below w7.heap.size w7 (w7.alloc (.cells #[.int .i64 q.1, .int .i64 q.2.1] 126)):=eX (Below.refl _ _) _;have ae:=mk0 (L.below I);have HK8:=mk0 ((HK6.out.trans G).trans (Kp.below I));have av:=mk0 ((al.out.kept G).kept (Kp.below I));obtain⟨_,y5,yf⟩:=ae.out.cells;clear L G I)|(go_at_call 67;(with_reducible refine(qy 19 ae.out).mono ?_);rintro e w9⟨rfl,Z,af⟩;have ak:=mk0 Z;have HK9:=mk0 (HK8.out.trans af);clear Z af));go_ret;exact⟨rfl,ak.out,HK9.out⟩
          · have a8:(q.1 !=2)=true:=bne_iff_ne.mpr h2
            rw[if_neg (fun h=>h2 h.1)]at ag;cases ag;rw[if_pos rfl]at Y;cases Y;clear h2;go_wp2_with(first|(go_at_call 90;(with_reducible refine(kS 8 x 0 (wrap64 (d+1)) ah.out az.out).mono ?_);rintro e w6⟨rfl,ab,U⟩;have X:=mk0 ab;have HK6:=mk0 (HK5.out.trans U);have al:=mk0 (am.out.kept U);clear ab U)|(go_at_call 91;(with_reducible refine(HI.out.fr X.out aA.out).mono ?_);rintro e w7⟨rfl,L,G⟩;have I:Below w7.heap.size w7 (w7.alloc (.cells #[.int .i64 q.1, .int .i64 q.2.1] 126)):=eX (Below.refl _ _) _;have ae:=mk0 (L.below I);have HK8:=mk0 ((HK6.out.trans G).trans (Kp.below I));have av:=mk0 ((al.out.kept G).kept (Kp.below I));obtain⟨_,y5,yf⟩:=ae.out.cells;clear L G I)|(go_at_call 67;(with_reducible refine(qy 19 ae.out).mono ?_);rintro e w9⟨rfl,Z,af⟩;have ak:=mk0 Z;have HK9:=mk0 (HK8.out.trans af);clear Z af));go_ret;exact⟨rfl,ak.out,HK9.out⟩
      · have ib:decide ((i:Int)<(D.length:Int))=false:=decide_eq_false (by omega)
        have bb:decide (i<D.length)=false:=decide_eq_false hi;have hb:=HB.out;rw[List.drop_of_length_le (by omega),branch]at hb;cases hb;have Y:=HR.out;rw[if_neg (show ¬((false,jn,W').1=true)from fun h=>by cases h)]at Y;dsimp only at Y;have aw:=mk0 (HD.out.below ah.out.old);obtain⟨⟨q0,q1,q2⟩,_,_⟩:=ah.out.cells;clear hi HB HR ai;by_cases hk:iC l1 jn=kd
        · have kb:(iC l1 jn !=kd)=false:=bne_eq_false_iff_eq.mpr hk
          by_cases hn:(ins l2 jn).length=D.length
          · have ba:(((ins l2 jn).length:Int) !=(D.length:Int))=false:=bne_eq_false_iff_eq.mpr (by omega)
            rw[if_pos ⟨hk,hn⟩]at Y;obtain⟨_,aN,ao⟩:=Option.bind_eq_some_iff.mp Y;obtain⟨g,hg,ap⟩:=Option.bind_eq_some_iff.mp ao;cases ap;have a2:=mk0 aN;have HF:=mk0 hg;clear hk hn Y ao aN hg;go_wp2_with(first|(go_at_call 48;(with_reducible refine(rA aw.out s jn).mono ?_);rintro e w6⟨rfl,aa⟩;have X:=mk0 (ah.out.below aa);have HK6:=mk0 (HK5.out.trans (Kp.below aa));have au:=mk0 (aw.out.below aa);obtain⟨⟨p0,p1,p2⟩,_,_⟩:=X.out.cells;clear aa)|(go_at_call 51;(with_reducible refine(uJ au.out s jn).mono ?_);rintro e w7⟨v7,rfl,ay,aq⟩;obtain⟨A7,c7,rfl,_,_⟩:=ay.reads;have ar:=mk0 (X.out.below aq);have HK7:=mk0 (HK6.out.trans (Kp.below aq));clear aq ay)|(go_at_call 137;(with_reducible refine(xG W.l.length jn ar.out a2.out).mono ?_);rintro e w9⟨rfl,Z,af⟩;have ak:=mk0 Z;have HK9:=mk0 (HK7.out.trans af);have aL:=mk0 (HD.out.below Z.old);obtain⟨⟨p0,p1,p2⟩,_,_⟩:=ak.out.cells;clear Z af)|(go_at_call 13;(with_reducible refine(qK aL.out s jn).mono ?_);rintro e a5⟨aS,rfl,aB,aC⟩;obtain⟨h0,aY⟩:=head_cons HF.out;obtain⟨_,_,rfl,_,_⟩:=aB.reads;obtain⟨aK,rfl,g4⟩:=aB.at h0;rw[aY]at g4;have g5:a5.cell? aK=some (.int .i64 g):=g4;have aR:=mk0 (ak.out.below aC);have HK10:=mk0 (HK9.out.trans (Kp.below aC));have o1:(0:Int)<((outs l2 jn).length:Int):=by omega));go_ret;exact⟨rfl,aR.out,HK10.out⟩
          · have ba:(((ins l2 jn).length:Int) !=(D.length:Int))=true:=bne_iff_ne.mpr (by omega)
            rw[if_neg (fun h=>hn h.2)]at Y;cases Y;clear hk hn;go_wp2_with(first|(go_at_call 48;(with_reducible refine(rA aw.out s jn).mono ?_);rintro e w6⟨rfl,aa⟩;have X:=mk0 (ah.out.below aa);have HK6:=mk0 (HK5.out.trans (Kp.below aa));have au:=mk0 (aw.out.below aa);obtain⟨⟨p0,p1,p2⟩,_,_⟩:=X.out.cells;clear aa)|(go_at_call 51;(with_reducible refine(uJ au.out s jn).mono ?_);rintro e w7⟨v7,rfl,ay,aq⟩;obtain⟨A7,c7,rfl,_,_⟩:=ay.reads;have ar:=mk0 (X.out.below aq);have HK7:=mk0 (HK6.out.trans (Kp.below aq));clear aq ay)|(go_at_call 67;(with_reducible refine(qy 19 ar.out).mono ?_);rintro e w9⟨rfl,Z,af⟩;have ak:=mk0 Z;have HK9:=mk0 (HK7.out.trans af);clear Z af));go_ret;exact⟨rfl,ak.out,HK9.out⟩
        · have kb:(iC l1 jn !=kd)=true:=bne_iff_ne.mpr hk
          rw[if_neg (fun h=>hk h.1)]at Y;cases Y;clear hk;go_wp2_with(first|(go_at_call 48;(with_reducible refine(rA aw.out s jn).mono ?_);rintro e w6⟨rfl,aa⟩;have X:=mk0 (ah.out.below aa);have HK6:=mk0 (HK5.out.trans (Kp.below aa));have au:=mk0 (aw.out.below aa);obtain⟨⟨p0,p1,p2⟩,_,_⟩:=X.out.cells;clear aa)|(go_at_call 67;(with_reducible refine(qy 19 X.out).mono ?_);rintro e w9⟨rfl,Z,af⟩;have ak:=mk0 Z;have HK9:=mk0 (HK6.out.trans af);clear Z af));go_ret;exact⟨rfl,ak.out,HK9.out⟩
end Go.Proofs.Ng
