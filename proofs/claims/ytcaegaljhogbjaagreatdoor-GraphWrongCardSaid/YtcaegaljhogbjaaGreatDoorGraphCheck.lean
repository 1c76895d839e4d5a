/- graph.Check, walked by hand: it computes what the reference's Check does. -/
import Derived.Test.YtcaegaljhogbjaaGreatDoorGraphMore
import Derived.Test.YtcaegaljhogbjaaGreatDoorGraphNode
import Derived.Test.YtcaegaljhogbjaaGreatDoorYx5
set_option linter.unusedSimpArgs false
set_option linter.unusedVariables false
namespace Go.Proofs.Gr
open RowKit Lib Go.Sort PW PL PM Y Z Gd
def CI(w:World)(s:ByteArray)(v1 v2:Value)(bg b1 b2:Nat)(l2:List S40)(W:World):Prop:=
  eD (Below w.heap.size w W)∧eD (W.heap[w.heap.size]?=some (.cells #[.string s,v1,v2] 25 (0,0)))∧
  eD (W.heap[bg]?=some (.cells #[.string s,v1,v2, .map (some b1), .map (some b2)] 53 (0,0)))∧eD (GM W b1 b2 l2)∧eD (Wrong W)
section
variable {w W W':World} {s:ByteArray} {v1 v2:Value} {bg b1 b2:Nat} {l2:List S40}
theorem CI.below(h:CI w s v1 v2 bg b1 b2 l2 W)(D:Below W.heap.size W W'):CI w s v1 v2 bg b1 b2 l2 W':=
  ⟨⟨kg h.1.out D⟩,⟨iW h.2.1.out D⟩,⟨iW h.2.2.1.out D⟩,⟨h.2.2.2.1.out.below D⟩,⟨h.2.2.2.2.out.below D⟩⟩
theorem CI.drewN(h:CI w s v1 v2 bg b1 b2 l2 W)(n:Nat):CI w s v1 v2 bg b1 b2 l2 (W.drewN n):=h.below (eP (Below.refl _ _) _)
theorem CI.drew(h:CI w s v1 v2 bg b1 b2 l2 W):CI w s v1 v2 bg b1 b2 l2 W.drew:=h.below (eZ (Below.refl _ _))
theorem CI.alloc(h:CI w s v1 v2 bg b1 b2 l2 W)(o:Obj):CI w s v1 v2 bg b1 b2 l2 (W.alloc o):=h.below (eX (Below.refl _ _) _)
theorem CI.low(h:CI w s v1 v2 bg b1 b2 l2 W):Below w.heap.size w W:=h.1.out
theorem CI.cells(h:CI w s v1 v2 bg b1 b2 l2 W):(W.cell? ⟨w.heap.size,0,none⟩=some (.string s)∧W.cell? ⟨w.heap.size,1,none⟩=some v1∧W.cell? ⟨w.heap.size,2,none⟩=some v2)∧
    W.cell? ⟨bg,0,none⟩=some (.string s)∧W.cell? ⟨bg,1,none⟩=some v1∧W.cell? ⟨bg,2,none⟩=some v2∧W.cell? ⟨bg,3,none⟩=some (.map (some b1))∧W.cell? ⟨bg,4,none⟩=some (.map (some b2)):=
  ⟨qO h.2.1.out,kT h.2.2.1.out⟩
end
def sized(l1:List S38)(l2:List S40):Bool:=decide (l1.length≤1000000)&&decide (l2.length≤1000000)&&l1.all (fun x=>decide (x.f4.size≤1000))
def qX.f(k:Nat)(I:ByteArray)(G:List S38)(D:List S40):Option (Int×Int):=if sized G D=true then eu.f k I G D else none
theorem qX.mono:∀D I G k,LeO (qX.f k D I G) (qX.f (k+1) D I G):=by
  intro D I G k;unfold qX.f;exact LeO.ite (eu.mono D I G k) (LeO.none _)
theorem Ii{α:Type}{f:Nat→Option α}(D:∀k,LeO (f k) (f (k+1))){k:Nat}{r:α}(h:f k=some r):∀m,f (k+m)=some r
  |0=>h
  |m+1=>D (k+m) r (Ii D h m)
theorem JW{α:Type}{f:Nat→Option α}(D:∀k,LeO (f k) (f (k+1))){k m:Nat}{r:α}(h:f k=some r)(hk:k≤m):f m=some r:=by
  obtain⟨d,rfl⟩:∃d,m=k+d:=⟨m-k,by omega⟩
  exact Ii D h d
theorem JZ{k:Nat}{s:ByteArray}{l1:List S38}{l2:List S40}{n t:Int}(h:iZ.f k s l1 l2 n=some t):
    (l1.length≤1000000∧inL l1 n∧(nd l1 n).f4.size≤1000∧r9 l1 n (nd l1 n)=t)∧(t=0→(nd l1 n).f0≠0):=by
  unfold iZ.f at h
  split at h
  case isFalse=>cases h
  rename_i G
  simp only[Bool.and_eq_true,decide_eq_true_eq]at G;have D:=Option.some.inj h;refine⟨⟨G.1.1,G.1.2,G.2,D⟩,fun e=>?_⟩;rw[e]at D;unfold r9 at D;intro I;rw[if_pos (by omega)]at D;cases D
theorem wB(k:Nat)(D:ByteArray)(A1:Option Addr)(c1:Nat)(l1:List S38)(A2:Option Addr)(c2:Nat)(l2:List S40)(b1 b2:Nat)(n:Int)(r:Bool)(w:World)(U:Kd.C k38 w A1 l1.length l1)(G:l1.length≤c1)(I:Kd.C k40 w A2 l2.length l2)(L:l2.length≤c2)(h:kQ.f k D l1 l2 b1 b2 n=some r):
    Calls Tryz.prog 26 #[.agg #[.string D, .slice A1 l1.length c1, .slice A2 l2.length c2, .map (some b1), .map (some b2)], .int .i64 n] w fun e w'=>e= .returned (.bool r)∧Below w.heap.size w w':=
  kQ.calls k D A1 c1 l1 A2 c2 l2 b1 b2 n r w U G I L h
theorem MF(l:List S38):qQ.f (l.length:Int) 1 60=some (decide (1≤l.length∧l.length≤60)):=by
  rw[LA];congr 1;rw[Bool.eq_iff_iff,decide_eq_true_eq,decide_eq_true_eq];omega
set_option maxHeartbeats 8000000 in
set_option maxRecDepth 100000 in
theorem qX.calls(k:Nat)(L:ByteArray)(aa:Option Addr)(X:Nat)(G:List (S38))(Z:Option Addr)(Y:Nat)(I:List (S40))(r1:Int)(r2:Int)(w:World)(ay:Wrong w)(ap:Kd.C k38 w aa G.length G)(aq:G.length≤X)(ao:Kd.C k40 w Z I.length I)(an:I.length≤Y)(h:qX.f k L G I=some (r1,r2)):
    Calls Tryz.prog 9 #[.agg #[.string L, .slice aa G.length X, .slice Z I.length Y]] w fun e w'=>e= .returned (.tuple #[.int .i64 r1, .int .i64 r2])∧Below w.heap.size w w':=by
  unfold qX.f at h;by_cases aw:sized G I=true;case neg=>rw[if_neg aw]at h;cases h
  rw[if_pos aw]at h;have aL:=mk0 aw;clear aw;obtain⟨hl,hf⟩:G.length≤1000000∧I.length≤1000000:=by
    have:=aL.out;unfold sized at this;simp only[Bool.and_eq_true,decide_eq_true_eq]at this;exact this.1
  have HL:=mk0 hl;have HF:=mk0 hf;have ab:=mk0 ap;have ae:=mk0 ao;have ag:=mk0 aq;have ah:=mk0 an;have HW:=mk0 ay;have HH:=mk0 h;clear hl hf ap ao aq an ay h;have HB:=mk0 (eX (Below.refl w.heap.size w) (.cells #[.string L, .slice aa G.length X, .slice Z I.length Y] 25));have am:=mk0 (MF G);by_cases af:1≤G.length∧G.length≤60
  case neg=>
    rw[decide_eq_false af]at am;have H:=HH.out;unfold eu.f at H;have H':eu.j0 k true L G I=some (r1,r2):=by
      by_cases e0:(G.length:Int)=0
      · rw[if_pos e0]at H;exact H
      · rw[if_neg e0,if_pos (by omega)]at H;exact H
    cases k with
    |zero=>simp[eu.j0]at H'
    |succ k=>
      rw[eu.j0,if_pos rfl]at H';obtain⟨rfl,rfl⟩:=Prod.mk.inj (Option.some.inj H');clear H H' HH;go_enter Tryz.func9,Tryz.ntmps9;go_wp2_with(go_at_call 21;(with_reducible refine(qQ.calls _ 1 60 _ _ am.out).mono ?_);rintro e w7⟨rfl,⟨nq,rfl⟩⟩);go_ret2;exact⟨rfl,by repeat(first|exact HB.out|apply eP|apply eZ)⟩
  rw[decide_eq_true af]at am;have H:=HH.out;unfold eu.f at H;rw[if_neg (by omega),if_neg (by omega)]at H;cases k with
  |zero=>simp[eu.j0]at H
  |succ k=>
  rw[eu.j0]at H;by_cases av:(I.length:Int)>90
  · have ar:decide ((I.length:Int)>90)=true:=decide_eq_true av
    rw[ar,if_pos rfl]at H;obtain⟨rfl,rfl⟩:=Prod.mk.inj (Option.some.inj H);clear H HH av;go_enter Tryz.func9,Tryz.ntmps9;go_wp2_with(go_at_call 21;(with_reducible refine(qQ.calls _ 1 60 _ _ am.out).mono ?_);rintro e w7⟨rfl,⟨nq,rfl⟩⟩);go_ret2;exact⟨rfl,by repeat(first|exact HB.out|apply eP|apply eZ)⟩
  have ar:decide ((I.length:Int)>90)=false:=decide_eq_false av;rw[ar,if_neg (by decide)]at H;clear HH av;have HH:=mk0 H;clear H af;go_enter Tryz.func9,Tryz.ntmps9;have aA:=mk0 (qF w (.cells #[.string L, .slice aa G.length X, .slice Z I.length Y] 25));go_wp2_with(go_at_call 21;(with_reducible refine(qQ.calls _ 1 60 _ _ am.out).mono ?_);rintro e w7⟨rfl,⟨nq,rfl⟩⟩);have au:=mk0 (eP HB.out nq);refine(Bf L _ _ G _ _ I _ (Kd.iT ae.out au.out) (by have:=HF.out;omega)).mono ?_;rintro e w3⟨b1,b2,rfl,hg,hb⟩
  have D:=mk0 (show CI w L (.slice aa G.length X) (.slice Z I.length Y) w3.heap.size b1 b2 I (w3.alloc (.cells #[.string L, .slice aa G.length X, .slice Z I.length Y, .map (some b1), .map (some b2)] 53))from
    ⟨⟨eX (kg au.out hb) _⟩,⟨sG (iW (zJ aA.out nq) hb) _⟩,⟨qF _ _⟩,⟨hg.below (eX (Below.refl _ _) _)⟩,⟨(HW.out.below (kg au.out hb)).below (eX (Below.refl _ _) _)⟩⟩)
  clear HB au aA hg hb am HW;obtain⟨⟨d0,d1,d2⟩,g0,g1,g2,g3,g4⟩:=D.out.cells;go_wp2_with fail;clear d0 d1 d2 g0 g1 g2 g3 g4;generalize w3.alloc (.cells #[.string L, .slice aa G.length X, .slice Z I.length Y, .map (some b1), .map (some b2)] 53)=w4 at*;generalize w3.heap.size=bg at*;go_loopg [29] k (fun kq aC wr=>∃i:Nat,aC= .int .i64 (i:Int)∧eD (i≤G.length)∧eD (eu.l0 kq ((i:Int)+1) L G I=some (r1,r2))∧eD (∀m:Int,inL G m→m≤i→(nd G m).f0≠0)∧eD (CI w L (.slice aa G.length X) (.slice Z I.length Y) bg b1 b2 I wr));case atStart=>exact⟨0,rfl,⟨Nat.zero_le _⟩,HH,⟨fun m hm h0=>absurd hm.1 (by omega)⟩,D⟩
  case round=>
    clear HH D;obtain⟨i,rfl,HI,HH,HK,D⟩:=hrel;obtain⟨⟨d0,d1,d2⟩,g0,g1,g2,g3,g4⟩:=D.out.cells;cases gk with
    |zero=>exact absurd HH.out (by simp[eu.l0])
    |succ k1=>
      have H:=HH.out;clear HH;rw[eu.l0]at H;by_cases hi:i<G.length
      · have ai:decide ((i:Int)<(G.length:Int))=true:=decide_eq_true (by omega)
        rw[if_pos (by omega)]at H;obtain⟨tt,ht,H⟩:=Option.bind_eq_some_iff.mp H;have al:=JZ ht;have aI:=mk0 al.2;have aj:=mk0 (show ∀W,CI w L (.slice aa G.length X) (.slice Z I.length Y) bg b1 b2 I W→Calls Tryz.prog 23 #[.agg #[.string L, .slice aa G.length X, .slice Z I.length Y, .map (some b1), .map (some b2)], .int .i64 ((i:Int)+1)] W fun e w'=>e= .returned (.int .i64 tt)∧Below W.heap.size W w' from fun W D=>by have hc:=C9 L aa X G Z Y I b1 b2 ((i:Int)+1) W al.1.1 (Kd.iT ab.out D.low) ag.out (Kd.iT ae.out D.low) ah.out al.1.2.1 al.1.2.2.1;rw[al.1.2.2.2]at hc;exact hc);clear al ht;(have ax:IntKind.i64.wrap ((i:Int)+1)=(i:Int)+1:=by rw[kZ,rT i (by have:=HL.out;omega)];omega);(have ak:wrap64 ((i:Int)+1)=(i:Int)+1:=by rw[rT i (by have:=HL.out;omega)];omega);by_cases h0:tt=0
        · subst h0
          rw[if_pos rfl,show wrap64 ((i:Int)+1+1)=((i+1:Nat):Int)+1 by have:=HL.out;unfold wrap64;omega]at H;have HH:=mk0 H;clear H;go_wp2_with(go_at_call 23;(with_reducible refine(aj.out _ D.out).mono ?_);rintro e w9⟨rfl,U⟩;have n0:=mk0 (D.out.below U);clear D U;have D:=n0;clear n0);go_roundg k1;case measure=>omega
          case rel => exact ⟨i + 1, by first | rfl | (rw [show ((i + 1 : Nat) : Int) = (i : Int) + 1 by omega]) | simp, ⟨hi⟩, HH, ⟨fun m hm aN => by
            by_cases e:m=(i:Int)+1
            · subst e;exact aI.out (by simp)
            · exact HK.out m hm (by omega)⟩,D⟩
        · rw[if_neg h0]at H
          obtain⟨rfl,rfl⟩:=Prod.mk.inj (Option.some.inj H);clear H;have aD:(tt !=0)=true:=bne_iff_ne.mpr h0;go_wp2_with(go_at_call 23;(with_reducible refine(aj.out _ D.out).mono ?_);rintro e w9⟨rfl,U⟩;have n0:=mk0 (D.out.below U);clear D U;have D:=n0;clear n0);go_ret2;exact⟨rfl,D.out.low⟩
      · have ai:decide ((i:Int)<(G.length:Int))=false:=decide_eq_false (by omega)
        rw[if_neg (by omega)]at H;have aH:=mk0 (fun(m:Int) (hm:inL G m)=>HK.out m hm (by have:=hm.2;omega));have HH:=mk0 H;clear H HK HI;go_wp2_with fail;clear d0 d1 d2 g0 g1 g2 g3 g4;go_loopg [45] k1 (fun kq aF wr=>∃i:Nat,aF= .int .i64 (i:Int)∧eD (i≤I.length)∧eD (eu.l1 kq ((i:Int)+1) L G I=some (r1,r2))∧eD (CI w L (.slice aa G.length X) (.slice Z I.length Y) bg b1 b2 I wr));case atStart=>exact⟨0,rfl,⟨Nat.zero_le _⟩,HH,D⟩
        case round=>
          clear HH D;obtain⟨i,rfl,HI,HH,D⟩:=hrel;obtain⟨⟨d0,d1,d2⟩,g0,g1,g2,g3,g4⟩:=D.out.cells;cases gk with
          |zero=>exact absurd HH.out (by simp[eu.l1])
          |succ k1=>
            have H:=HH.out;clear HH;rw[eu.l1]at H;by_cases hi:i<I.length
            · have ai:decide ((i:Int)<(I.length:Int))=true:=decide_eq_true (by omega)
              rw[if_pos (by omega)]at H;(have ax:IntKind.i64.wrap ((i:Int)+1)=(i:Int)+1:=by rw[kZ,rT i (by have:=HL.out;have:=HF.out;omega)];omega);(have ak:wrap64 ((i:Int)+1)=(i:Int)+1:=by rw[rT i (by have:=HL.out;have:=HF.out;omega)];omega);obtain⟨tt,ht,H⟩:=Option.bind_eq_some_iff.mp H;obtain⟨p,q,x,y,is,aE,hx,hy,he⟩:=JX HL.out HF.out aH.out ht;have aj:=mk0 (show ∀W,CI w L (.slice aa G.length X) (.slice Z I.length Y) bg b1 b2 I W→Calls Tryz.prog 24 #[.agg #[.string L, .slice aa G.length X, .slice Z I.length Y, .map (some b1), .map (some b2)], .int .i64 ((i:Int)+1)] W fun e w'=>e= .returned (.int .i64 tt)∧Below W.heap.size W w' from fun W D=>by have hc:=DF L aa X G Z Y I b1 b2 ((i:Int)+1) W (Kd.iT ab.out D.low) ag.out (Kd.iT ae.out D.low) ah.out D.2.2.2.1.out D.2.2.2.2.out p q x y is aE hx hy;rw[he]at hc;exact hc);clear ht p q hx hy he;by_cases h0:tt=0
              · subst h0
                rw[if_pos rfl,show wrap64 ((i:Int)+1+1)=((i+1:Nat):Int)+1 by have:=HL.out;have:=HF.out;unfold wrap64;omega]at H;have HH:=mk0 H;clear H;go_wp2_with(go_at_call 24;(with_reducible refine(aj.out _ D.out).mono ?_);rintro e w9⟨rfl,U⟩;have n0:=mk0 (D.out.below U);clear D U;have D:=n0;clear n0);go_roundg k1;(case measure=>omega);case rel=>exact⟨i+1,by first|rfl|(rw[show((i+1:Nat):Int)=(i:Int)+1 by omega])|simp,⟨hi⟩,HH,D⟩
              · rw[if_neg h0]at H
                obtain⟨rfl,rfl⟩:=Prod.mk.inj (Option.some.inj H);clear H;have aD:(tt !=0)=true:=bne_iff_ne.mpr h0;go_wp2_with(go_at_call 24;(with_reducible refine(aj.out _ D.out).mono ?_);rintro e w9⟨rfl,U⟩;have n0:=mk0 (D.out.below U);clear D U;have D:=n0;clear n0);go_ret2;exact⟨rfl,D.out.low⟩
            · have ai:decide ((i:Int)<(I.length:Int))=false:=decide_eq_false (by omega)
              rw[if_neg (by omega)]at H;have HH:=mk0 H;clear H HI;go_wp2_with fail;clear d0 d1 d2 g0 g1 g2 g3 g4;go_loopg [61] k1 (fun kq aM wr=>∃i:Nat,aM= .int .i64 (i:Int)∧eD (i≤G.length)∧eD (eu.l2 kq ((i:Int)+1) L G I=some (r1,r2))∧eD (CI w L (.slice aa G.length X) (.slice Z I.length Y) bg b1 b2 I wr));case atStart=>exact⟨0,rfl,⟨Nat.zero_le _⟩,HH,D⟩
              case round=>
                clear HH D;obtain⟨i,rfl,HI,HH,D⟩:=hrel;obtain⟨⟨d0,d1,d2⟩,g0,g1,g2,g3,g4⟩:=D.out.cells;cases gk with
                |zero=>exact absurd HH.out (by simp[eu.l2])
                |succ k1=>
                  have H:=HH.out;clear HH;rw[eu.l2]at H;by_cases hi:i<G.length
                  · have ai:decide ((i:Int)<(G.length:Int))=true:=decide_eq_true (by omega)
                    rw[if_pos (by omega)]at H;(have ax:IntKind.i64.wrap ((i:Int)+1)=(i:Int)+1:=by rw[kZ,rT i (by have:=HL.out;have:=HF.out;omega)];omega);(have ak:wrap64 ((i:Int)+1)=(i:Int)+1:=by rw[rT i (by have:=HL.out;have:=HF.out;omega)];omega);obtain⟨tt,ht,H⟩:=Option.bind_eq_some_iff.mp H;(have af:inL G ((i:Int)+1):=⟨by omega,by omega⟩);have aB:=Iq HL.out HF.out af ht;have az:=zw HL.out af;have aj:=mk0 (show ∀W,CI w L (.slice aa G.length X) (.slice Z I.length Y) bg b1 b2 I W→Calls Tryz.prog 25 #[.agg #[.string L, .slice aa G.length X, .slice Z I.length Y, .map (some b1), .map (some b2)], .int .i64 ((i:Int)+1)] W fun e w'=>e= .returned (.bool tt)∧Below W.heap.size W w' from fun W D=>by have hc:=CK L _ X G Z Y I b1 b2 ((i:Int)+1) W (Kd.iT ab.out D.low) D.2.2.2.1.out az.2.1 az.2.2;rw[aB]at hc;exact hc);clear ht af aB az;cases tt with
                    |true=>
                      rw[if_pos rfl,show wrap64 ((i:Int)+1+1)=((i+1:Nat):Int)+1 by have:=HL.out;have:=HF.out;unfold wrap64;omega]at H;have HH:=mk0 H;clear H;go_wp2_with(go_at_call 25;(with_reducible refine(aj.out _ D.out).mono ?_);rintro e w9⟨rfl,U⟩;have n0:=mk0 (D.out.below U);clear D U;have D:=n0;clear n0);go_roundg k1;(case measure=>omega);case rel=>exact⟨i+1,by first|rfl|(rw[show((i+1:Nat):Int)=(i:Int)+1 by omega])|simp,⟨hi⟩,HH,D⟩
                    |false=>
                      rw[if_neg (by decide)]at H;obtain⟨rfl,rfl⟩:=Prod.mk.inj (Option.some.inj H);clear H;go_wp2_with(go_at_call 25;(with_reducible refine(aj.out _ D.out).mono ?_);rintro e w9⟨rfl,U⟩;have n0:=mk0 (D.out.below U);clear D U;have D:=n0;clear n0);go_ret2;exact⟨rfl,D.out.low⟩
                  · have ai:decide ((i:Int)<(G.length:Int))=false:=decide_eq_false (by omega)
                    rw[if_neg (by omega)]at H;have HH:=mk0 H;clear H HI;go_wp2_with fail;have H:=HH.out;clear HH;cases k1 with
                    |zero=>exact absurd H (by simp[eu.l3])
                    |succ k2=>
                      rw[eu.l3,if_pos (by omega),if_pos rfl]at H;obtain⟨tt,ht,H⟩:=Option.bind_eq_some_iff.mp H;have HE:=mk0 (IJ HL.out (b1:Int) (b2:Int) ht);clear ht;cases tt with
                      |false=>
                        rw[if_neg (by decide)]at H;obtain⟨rfl,rfl⟩:=Prod.mk.inj (Option.some.inj H);clear H;go_wp2_with(go_at_call 26;(with_reducible refine(wB k2 L _ _ G _ _ I b1 b2 _ _ _ (Kd.iT ab.out D.out.low) ag.out (Kd.iT ae.out D.out.low) ah.out HE.out).mono ?_);rintro e w9⟨rfl,U⟩;have n0:=mk0 (D.out.below U);clear D U;have D:=n0;clear n0);go_ret2;exact⟨rfl,D.out.low⟩
                      |true=>
                        rw[if_pos rfl]at H;have HH:=mk0 (show eu.l3 k2 ((0:Nat)+1:Int) L G I=some (r1,r2)from(show wrap64 (0+1)=((0:Nat):Int)+1 by unfold wrap64;omega)▸H);clear H;go_wp2_with fail;(with_reducible refine(wB k2 L _ _ G _ _ I b1 b2 _ _ _ (Kd.iT ab.out D.out.low) ag.out (Kd.iT ae.out D.out.low) ah.out HE.out).mono ?_);rintro e w9⟨rfl,U⟩;have n0:=mk0 (D.out.below U);clear D U;have D:=n0;clear n0;clear d0 d1 d2 g0 g1 g2 g3 g4 HE;obtain⟨⟨d0,d1,d2⟩,g0,g1,g2,g3,g4⟩:=D.out.cells;go_wp2_with fail;clear d0 d1 d2 g0 g1 g2 g3 g4;go_loopg [78] k2 (fun kq aK wr=>∃i:Nat,aK= .int .i64 (i:Int)∧eD (i≤G.length)∧eD (eu.l3 kq ((i:Int)+1) L G I=some (r1,r2))∧eD (CI w L (.slice aa G.length X) (.slice Z I.length Y) bg b1 b2 I wr));case atStart=>exact⟨0,rfl,⟨Nat.zero_le _⟩,HH,D⟩
                        case round=>
                          clear HH D;obtain⟨i,rfl,HI,HH,D⟩:=hrel;obtain⟨⟨d0,d1,d2⟩,g0,g1,g2,g3,g4⟩:=D.out.cells;cases gk with
                          |zero=>exact absurd HH.out (by simp[eu.l3])
                          |succ k1=>
                            have H:=HH.out;clear HH;rw[eu.l3]at H;by_cases hi:i<G.length
                            · have ai:decide ((i:Int)<(G.length:Int))=true:=decide_eq_true (by omega)
                              rw[if_pos (by omega)]at H;(have ax:IntKind.i64.wrap ((i:Int)+1)=(i:Int)+1:=by rw[kZ,rT i (by have:=HL.out;have:=HF.out;omega)];omega);(have ak:wrap64 ((i:Int)+1)=(i:Int)+1:=by rw[rT i (by have:=HL.out;have:=HF.out;omega)];omega);obtain⟨_,rfl,e0,e1,e2,e3,e4⟩:=tH (Kd.iT ab.out D.out.low) (i:Int) (by omega) (by omega);rw[Int.toNat_natCast]at e0 e1 e2 e3 e4;(have af:inL G ((i:Int)+1):=⟨by omega,by omega⟩);(have hk:iC G ((i:Int)+1)=(iH G (i:Int)).f0:=by rw[iC,if_pos af,nd,show wrap64 ((i:Int)+1-1)=(i:Int) by have:=HL.out;unfold wrap64;omega]);rw[if_neg (by omega),vT HL.out,hk]at H;simp only[Option.bind_some]at H;have HO:=mk0 (D5 (iH G (i:Int)).f0);clear hk af;generalize iH G (i:Int)=x at*;obtain⟨x0,x1,x2,x3,x4⟩:=x;dsimp only at e0 e1 e2 e3 e4 HO H;have n0:=mk0 (CI.alloc D.out (.cells #[.int .i64 x0, .int .i64 x1, .int .i64 x2, .int .i64 x3, .string x4] 38));clear D;have D:=n0;clear n0;obtain⟨_,_,_,_,_,_⟩:=D.out.cells;cases hop:opn x0 with
                              |false=>
                                rw[hop]at HO;rw[hop,if_neg (by decide),show wrap64 ((i:Int)+1+1)=((i+1:Nat):Int)+1 by have:=HL.out;have:=HF.out;unfold wrap64;omega]at H;clear hop;have HH:=mk0 H;clear H;go_wp2_with(first|(go_at_call 27;(with_reducible refine(tN.calls _ _ _ HO.out).mono ?_);rintro e w8⟨rfl,⟨nq,rfl⟩⟩;have n0:=mk0 (CI.drewN D.out nq);clear D;have D:=n0;clear n0)|(go_at_call 26;(with_reducible refine(wB k1 L _ _ G _ _ I b1 b2 _ _ _ (Kd.iT ab.out D.out.low) ag.out (Kd.iT ae.out D.out.low) ah.out HE.out).mono ?_);rintro e w9⟨rfl,U⟩;have n0:=mk0 (D.out.below U);clear D U;have D:=n0;clear n0));go_roundg k1;(case measure=>omega);case rel=>exact⟨i+1,by first|rfl|(rw[show((i+1:Nat):Int)=(i:Int)+1 by omega])|simp,⟨hi⟩,HH,D⟩
                              |true=>
                                rw[hop]at HO;rw[hop,if_pos rfl]at H;clear hop;obtain⟨tt,ht,H⟩:=Option.bind_eq_some_iff.mp H;have HE:=mk0 (IJ HL.out (b1:Int) (b2:Int) ht);clear ht;cases tt with
                                |true=>
                                  rw[if_pos rfl,show wrap64 ((i:Int)+1+1)=((i+1:Nat):Int)+1 by have:=HL.out;have:=HF.out;unfold wrap64;omega]at H;have HH:=mk0 H;clear H;go_wp2_with(first|(go_at_call 27;(with_reducible refine(tN.calls _ _ _ HO.out).mono ?_);rintro e w8⟨rfl,⟨nq,rfl⟩⟩;have n0:=mk0 (CI.drewN D.out nq);clear D;have D:=n0;clear n0)|(go_at_call 26;(with_reducible refine(wB k1 L _ _ G _ _ I b1 b2 _ _ _ (Kd.iT ab.out D.out.low) ag.out (Kd.iT ae.out D.out.low) ah.out HE.out).mono ?_);rintro e w9⟨rfl,U⟩;have n0:=mk0 (D.out.below U);clear D U;have D:=n0;clear n0));go_roundg k1;(case measure=>omega);case rel=>exact⟨i+1,by first|rfl|(rw[show((i+1:Nat):Int)=(i:Int)+1 by omega])|simp,⟨hi⟩,HH,D⟩
                                |false=>
                                  rw[if_neg (by decide)]at H;obtain⟨rfl,rfl⟩:=Prod.mk.inj (Option.some.inj H);clear H;go_wp2_with(first|(go_at_call 27;(with_reducible refine(tN.calls _ _ _ HO.out).mono ?_);rintro e w8⟨rfl,⟨nq,rfl⟩⟩;have n0:=mk0 (CI.drewN D.out nq);clear D;have D:=n0;clear n0)|(go_at_call 26;(with_reducible refine(wB k1 L _ _ G _ _ I b1 b2 _ _ _ (Kd.iT ab.out D.out.low) ag.out (Kd.iT ae.out D.out.low) ah.out HE.out).mono ?_);rintro e w9⟨rfl,U⟩;have n0:=mk0 (D.out.below U);clear D U;have D:=n0;clear n0));go_ret2;exact⟨rfl,D.out.low⟩
                            · have ai:decide ((i:Int)<(G.length:Int))=false:=decide_eq_false (by omega)
                              rw[if_neg (by omega)]at H;have HH:=mk0 H;clear H HI;go_wp2_with fail;clear d0 d1 d2 g0 g1 g2 g3 g4;go_loopg [99] k1 (fun kq aG wr=>∃i:Nat,aG= .int .i64 (i:Int)∧eD (i≤G.length)∧eD (eu.l4 kq ((i:Int)+1) L G I=some (r1,r2))∧eD (CI w L (.slice aa G.length X) (.slice Z I.length Y) bg b1 b2 I wr));case atStart=>exact⟨0,rfl,⟨Nat.zero_le _⟩,HH,D⟩
                              case round=>
                                clear HH D;obtain⟨i,rfl,HI,HH,D⟩:=hrel;obtain⟨⟨d0,d1,d2⟩,g0,g1,g2,g3,g4⟩:=D.out.cells;cases gk with
                                |zero=>exact absurd HH.out (by simp[eu.l4])
                                |succ k1=>
                                  have H:=HH.out;clear HH;rw[eu.l4]at H;by_cases hi:i<G.length
                                  · have ai:decide ((i:Int)<(G.length:Int))=true:=decide_eq_true (by omega)
                                    rw[if_pos (by omega)]at H;(have ax:IntKind.i64.wrap ((i:Int)+1)=(i:Int)+1:=by rw[kZ,rT i (by have:=HL.out;have:=HF.out;omega)];omega);(have ak:wrap64 ((i:Int)+1)=(i:Int)+1:=by rw[rT i (by have:=HL.out;have:=HF.out;omega)];omega);obtain⟨tt,ht,H⟩:=Option.bind_eq_some_iff.mp H;have HT:=mk0 (show vW.f k1 L G I ((i:Int)+1)=some tt from ht);clear ht;by_cases h5:tt>5
                                    · rw[if_pos h5]at H
                                      obtain⟨rfl,rfl⟩:=Prod.mk.inj (Option.some.inj H);clear H;have aJ:decide (tt>5)=true:=decide_eq_true h5;go_wp2_with(go_at_call 17;(with_reducible refine(vW.calls k1 L _ _ G _ _ I _ tt _ (Kd.iT ab.out D.out.low) ag.out (Kd.iT ae.out D.out.low) ah.out HT.out).mono ?_);rintro e w9⟨rfl,U⟩;have n0:=mk0 (D.out.below U);clear D U;have D:=n0;clear n0);go_ret2;exact⟨rfl,D.out.low⟩
                                    · rw[if_neg h5,show wrap64 ((i:Int)+1+1)=((i+1:Nat):Int)+1 by have:=HL.out;have:=HF.out;unfold wrap64;omega]at H
                                      have aJ:decide (tt>5)=false:=decide_eq_false h5;have HH:=mk0 H;clear H;go_wp2_with(go_at_call 17;(with_reducible refine(vW.calls k1 L _ _ G _ _ I _ tt _ (Kd.iT ab.out D.out.low) ag.out (Kd.iT ae.out D.out.low) ah.out HT.out).mono ?_);rintro e w9⟨rfl,U⟩;have n0:=mk0 (D.out.below U);clear D U;have D:=n0;clear n0);go_roundg k1;(case measure=>omega);case rel=>exact⟨i+1,by first|rfl|(rw[show((i+1:Nat):Int)=(i:Int)+1 by omega])|simp,⟨hi⟩,HH,D⟩
                                  · have ai:decide ((i:Int)<(G.length:Int))=false:=decide_eq_false (by omega)
                                    rw[if_neg (by omega)]at H;obtain⟨rfl,rfl⟩:=Prod.mk.inj (Option.some.inj H);clear H;go_wp2;go_ret2;exact⟨rfl,D.out.low⟩
end Go.Proofs.Gr
