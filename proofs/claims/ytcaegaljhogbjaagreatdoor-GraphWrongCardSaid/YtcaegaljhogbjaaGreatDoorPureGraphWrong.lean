/- What Go functions compute, as plain Lean functions, and. -/
import Derived.Test.YtcaegaljhogbjaaGreatDoorGraphTurn
import Derived.Test.YtcaegaljhogbjaaGreatDoorNWrongx2
import Derived.Test.YtcaegaljhogbjaaGreatDoorRowTurn
set_option linter.unusedSimpArgs false
set_option linter.unusedVariables false
namespace Go.Proofs.NWrong
open Y Go.Proofs.Gr R Ng M RowKit PW PL PM
attribute [local go_sem] qI qH qV qW qz qA qM qL
def kG.j0:Nat→Bool→ByteArray→List (S38)→List (S40)→Int→Int→Int→ByteArray→Option (Bool)
 |0,_,_,_,_,_,_,_,_=>none
 |k+1,x17,x172000,x172001,x172002,x173000,x173001,x173002,x173003=>if x17=true then((iX.f k).bind fun I=>(some I))else((eO.f x172000 x172001 x172002 x173000 x173001 x173002 x173003).bind fun D=>((qX.f k D.1 D.2.1 D.2.2.1).bind fun G=>(if G.1=D.2.2.2.1 then(if G.2=D.2.2.2.2 then((iX.f k).bind fun L=>(some L))else(some false))else(some false))))
def kG.f(k:Nat)(G:ByteArray)(I:List (S38))(D:List (S40))(U:Int)(Y:Int)(X:Int)(L:ByteArray):Option (Bool):=(rD.f k G I D).bind fun Z=>(if Z=true then(kG.j0 k (decide ((L.size:Int)>80)) G I D U Y X L)else(kG.j0 k true G I D U Y X L))
set_option maxHeartbeats 8000000 in
set_option maxRecDepth 100000 in
theorem kG.calls(k:Nat)(ae:ByteArray)(ax:Option Addr)(ay:Nat)(L:List (S38))(aA:Option Addr)(az:Nat)(U:List (S40))(al:Int)(ak:Int)(am:Int)(ag:ByteArray)(r:Bool)(w:World)(aE:Tab w)(aC:Kd.C k38 w ax L.length L)(aG:L.length≤ay)(aF:Kd.C k40 w aA U.length U)(aB:U.length≤az)(aU:r=true)(h:kG.f k ae L U al ak am ag=some r):
  Calls Tryz.prog 4 #[.agg #[.string ae, .slice ax L.length ay, .slice aA U.length az], .agg #[.int .i64 al, .int .i64 ak, .int .i64 am, .string ag]] w fun e w'=>e= .returned (.bool r)∧Below w.heap.size w w':=by
 have bb:=Tryz.underlying25;have be:=Tryz.underlying32;have ar:=mk0 aC;have av:=mk0 aG;clear aC aG;have au:=mk0 aF;have aw:=mk0 aB;clear aF aB;have HB:=mk0 (Below.refl w.heap.size w);unfold kG.f at h;have H:=h;clear h;have aK:=mk0 H;clear H;go_enter Tryz.func4,Tryz.ntmps4;go_upto_region 1 with(first|(refine gds 2 ?_;(try(refine qg (by rfl) ?_;dsimp only));refine bxe 2 (cs:=#[.string ae, .slice ax L.length ay, .slice aA U.length az]) (t:=25) ?_;intro aD hg w4 an I;have D:=mk0 an;have aX:=glh hg HB;replace HB:=bsh HB I;clear I an hg)|(refine gds 3 ?_;(try(refine qg (by rfl) ?_;dsimp only));refine bxe 3 (cs:=#[.int .i64 al, .int .i64 ak, .int .i64 am, .string ag]) (t:=32) ?_;intro aJ hg w5 an I;have G:=mk0 an;have ba:=glh hg HB;replace HB:=bsh HB I;have Y:=nlh hg D;have Z:=ngh hg D;replace D:=bkh D I;clear I an hg))
 (try simp only[Act.put,List.setIfInBounds_toArray,List.set_cons_zero,List.set_cons_succ]);go_cut [17] (fun a6 wc=>∃(kq:Nat) (aq:Bool),a6= .bool aq∧eD (kG.j0 kq aq ae L U al ak am ag=some r)∧eD (kq≤k)∧eD (wc.heap[aD]?=some (.cells #[.string ae,(.slice ax L.length ay),(.slice aA U.length az)] 25 (0,0)))∧eD (wc.heap[aJ]?=some (.cells #[.int .i64 al, .int .i64 ak, .int .i64 am, .string ag] 32 (0,0)))∧eD (Below w.heap.size w wc))
 case first=>
  have H:=aK.out;clear aK;replace H:=bsm H;obtain⟨_,A6,H⟩:=H;replace H:=icb H;rcases H with⟨rfl,H⟩|⟨rfl,H⟩
  ·have H':=mk0 H;clear H;have bd:=Y.out;have bc:=Z.out;obtain⟨_,_,_,_,_,_⟩:=qc D.out;go_wp2_with((refine gcl 11 (some 10) ?_;refine gca Tryz.func11 (rD.calls k ae _ _ L _ _ U true _ (cok ar HB) av.out (cok au HB) aw.out A6.out) ?_;rintro e bl⟨rfl,I⟩;refine⟨_,rfl,?_⟩;replace D:=bkh D I;replace G:=bkh G I;replace HB:=bsh HB I;(try clear I);obtain⟨_,_,_,_,_,_,_,_⟩:=zo G.out));go_meet;case rel=>exact⟨_,(decide ((ag.size:Int)>80)),qr,H',ql,bka D,bka G,hba HB⟩
  have H':=mk0 H;clear H;have a5:=Y.out;have a3:=Z.out;obtain⟨_,_,_,_,_,_⟩:=qc D.out;go_wp2_with((refine gcl 11 (some 10) ?_;refine gca Tryz.func11 (rD.calls k ae _ _ L _ _ U false _ (cok ar HB) av.out (cok au HB) aw.out A6.out) ?_;rintro e bh⟨rfl,I⟩;refine⟨_,rfl,?_⟩;replace D:=bkh D I;replace G:=bkh G I;replace HB:=bsh HB I;(try clear I)));go_meet;case rel=>exact⟨_,(true),qr,H',ql,bka D,bka G,hba HB⟩
 case rest=>
  clear aK;obtain⟨kq,aq,rfl,HA,HJ2,D,G,HB⟩:=hcut;cases kq with
  |zero=>exact absurd HA.out (by simp[kG.j0])
  |succ kj2=>
   have H:=HA.out;clear HA;simp only[kG.j0]at H;replace H:=icb H;rcases H with⟨rfl,H⟩|⟨rfl,H⟩
   ·replace H:=bsm H;obtain⟨aR,a4,H⟩:=H;obtain rfl:=Option.some.inj H;go_wp2_with((refine gcl 8 (some 18) ?_;refine gca Tryz.func8 (iX.calls kj2 aR _ (Tab.below aE (by exact bok HB.out)) a4.out) ?_;rintro e bj⟨rfl,I⟩;refine⟨_,rfl,?_⟩;replace D:=bkh D I;replace G:=bkh G I;replace HB:=bsh HB I;(try clear I)));go_ret;exact⟨qe,bok HB.out⟩
   replace H:=bsm H;obtain⟨⟨ah,af,ab,aT,aP⟩,a1,H⟩:=H;(try dsimp only at H);replace H:=bsm H;obtain⟨⟨aO,aQ⟩,a7,H⟩:=H;(try dsimp only at H);replace H:=ic H;rcases H with⟨aI,H⟩|⟨aI,H⟩
   ·have a0:=beq_iff_eq.mpr aI;have aW:=bne_eq_false_iff_eq.mpr aI;clear aI;replace H:=ic H;rcases H with⟨aH,H⟩|⟨aH,H⟩
    ·have aY:=beq_iff_eq.mpr aH;have a8:=bne_eq_false_iff_eq.mpr aH;clear aH;replace H:=bsm H;obtain⟨aV,a2,H⟩:=H;obtain rfl:=Option.some.inj H;have aZ:=Y.out;have a9:=Z.out;obtain⟨_,_,_,_,_,_⟩:=qc D.out;obtain⟨_,_,_,_,_,_,_,_⟩:=zo G.out;go_wp2_with(first|(refine gcl 12 (some 22) ?_;refine gca Tryz.func12 (eO.calls ae _ _ L _ _ U al ak am ag ah af ab aT aP _ (cok ar HB) av.out (cok au HB) aw.out a1.out) ?_;rintro e bk⟨_,_,rfl,aN,aM,I⟩;refine⟨_,rfl,?_⟩;have aa:=rlh aN HB;have X:=rlh aM HB;replace D:=bkh D I;replace G:=bkh G I;replace HB:=bsh HB I;(try clear I);(try clear aN);(try clear aM);obtain⟨_,_,_,_,_,_⟩:=qc D.out;obtain⟨ao,aj,aL⟩:=Kd.qw aa.out;subst aL;obtain⟨ap,ai,aS⟩:=Kd.qw X.out;subst aS)|(refine gcl 9 (some 28) ?_;refine gca Tryz.func9 (qX.calls kj2 ah _ _ af _ _ ab aO aQ _ (Tab.below aE (by exact bok HB.out)) (Kd.iY (e:=38) (base:=w.heap.size) (ok:=fun k_=>True) (n:=af.length) (c:=aj) (rok (Kd.kP (kR 2 (kR 1 (kR 0 (Kd.kI aa.out D.out (by decide)) (.string ah)) (.slice ao af.length aj)) (.slice ap ab.length ai)) (fun _ h_=>h_.1)))).2.2 (Kd.iY aa.out).2.1 (Kd.iY (e:=40) (base:=w.heap.size) (ok:=fun k_=>True) (n:=ab.length) (c:=ai) (rok (Kd.kP (kR 2 (kR 1 (kR 0 (Kd.kI X.out D.out (by decide)) (.string ah)) (.slice ao af.length aj)) (.slice ap ab.length ai)) (fun _ h_=>h_.1)))).2.2 (Kd.iY X.out).2.1 a7.out) ?_;rintro e bi⟨rfl,I⟩;refine⟨_,rfl,?_⟩;replace aa:=mk0 (Kd.qJ (by exact rok (Kd.kP (kR 2 (kR 1 (kR 0 (Kd.kI aa.out D.out (by decide)) (.string ah)) (.slice ao af.length aj)) (.slice ap ab.length ai)) (fun _ h_=>h_.1))) I);replace X:=mk0 (Kd.qJ (by exact rok (Kd.kP (kR 2 (kR 1 (kR 0 (Kd.kI X.out D.out (by decide)) (.string ah)) (.slice ao af.length aj)) (.slice ap ab.length ai)) (fun _ h_=>h_.1))) I);replace D:=mk0 (iW (g:=aD) (o:= .cells #[.string ah, .slice ao af.length aj, .slice ap ab.length ai] 25 (0,0)) (by exact obk (eY (obk (eY (obk (eY (obk D.out) 0 _ rfl)) 1 _ rfl)) 2 _ rfl)) I);replace G:=mk0 (iW (obf G.out) I);replace HB:=bsh HB I;(try clear I))|(go_at_call 8;refine(iX.calls kj2 aV _ (Tab.below aE (by exact bok HB.out)) a2.out).mono ?_;rintro e bf⟨rfl,I⟩;replace aa:=rkh aa I;replace X:=rkh X I;replace D:=bkh D I;replace G:=bkh G I;replace HB:=bsh HB I;(try clear I)));go_ret;exact⟨qe,bok HB.out⟩
    exact absurd (Option.some.inj H) (by rw[aU];decide)
   exact absurd (Option.some.inj H) (by rw[aU];decide)
end Go.Proofs.NWrong
namespace Go.Proofs.Pure
open RowKit Lib PW Y Go.Proofs.Gr Ng R M NWrong
theorem IK(a t:Nat)(D:a≤1000)(ht:t≤1000):wrap64 (wrap64 ((a:Int)+1)+(t:Int))=(a:Int)+1+t:=by
  have h:wrap64 ((a:Int)+1)=(a:Int)+1:=by unfold wrap64;omega
  rw[h];unfold wrap64;omega
theorem Ae(a:Int)(m:Nat)(D:0<m)(G:m≤1000000):∃r:Nat,iV.f a (m:Int)=some (r:Int)∧r<m:=by
  have h1:Int.tmod a (m:Int)<(m:Int):=Int.tmod_lt_of_pos a (by omega);have h2: -(m:Int)<Int.tmod a (m:Int):=Int.lt_tmod_of_pos a (by omega);unfold iV.f;rw[if_neg (by omega)];by_cases c:Int.tmod a (m:Int)<0
  · rw[if_pos c]
    refine⟨(Int.tmod a (m:Int)+m).toNat,?_,by omega⟩;rw[show wrap64 (Int.tmod a (m:Int)+(m:Int))=Int.tmod a (m:Int)+m by unfold wrap64;omega];congr 1;omega
  · rw[if_neg c]
    exact⟨(Int.tmod a (m:Int)).toNat,by congr 1;omega,by omega⟩
theorem Gh(nm:ByteArray)(l1:List S38)(l2:List S40)(a b c:Int)(S:ByteArray)(hS:S.size≤80)(ha:∀x∈l1,x.f4.size≤80){k0:Nat}{n:Int}(hc:eu.f k0 nm l1 l2=some (n,0)):
    ∃d1 d2 at_ e,eO.f nm l1 l2 a b c S=some (nm,d1,d2,at_,e)∧sized d1 d2=true∧∀k,2000≤k→eu.f k nm d1 d2=some (at_,e):=by
  have D:∀x∈l1,x.f4.size≤1000:=fun x X=>by have:=ha x X;omega
  obtain⟨g0,g1,g2,L,Y⟩:=Jd hc D;have hF:=FH hc;have g3:0<l2.length:=by
    obtain⟨⟨x,X,kx⟩,_⟩:=hF.en 0 (Or.inl rfl);obtain⟨ix,_⟩:=(xC l1 (by omega)).mp X;have ho:=hF.o1 x ix (Or.inl kx);obtain⟨f,_,hf⟩:=AP ho;obtain⟨hi,_⟩:=(tY l2).mp hf;have:=hi.1;have:=hi.2;omega
  obtain⟨i,hi,U⟩:=Ae b l1.length g0 (by omega);obtain⟨j,hj,I⟩:=Ae b l2.length g3 (by omega);obtain⟨q,hq,_⟩:=Ae a 8 (by decide) (by decide);obtain⟨t,ht,_⟩:=Ae c 1000 (by decide) (by decide);have wi:wrap64 ((i:Int)+1)=(i:Int)+1:=by unfold wrap64;omega
  have wj:wrap64 ((j:Int)+1)=(j:Int)+1:=by unfold wrap64;omega
  have t0:(0:Int)≤(i:Int):=by omega
  have t1:(i:Int)<(l1.length:Int):=by omega
  have t2:(0:Int)≤(j:Int):=by omega
  have t3:(j:Int)<(l2.length:Int):=by omega
  have ti:((i:Int)).toNat=i:=by omega
  have tj:((j:Int)).toNat=j:=by omega
  have ai:0+l1.length<2932031007402:=by omega
  have ah:0+l2.length<2932031007402:=by omega
  have aj:1+S.size≤9223372036854775807:=by omega
  have ag:((8:Nat):Int)=8:=rfl;have ak:((1000:Nat):Int)=1000:=rfl;rw[ag]at hq;rw[ak]at ht;have sx:(((⟨#[120]⟩:ByteArray)++S).size)=1+S.size:=by simp[ByteArray.size_append];rfl
  have sg:(((⟨#[63]⟩:ByteArray)++S).size)=1+S.size:=by simp[ByteArray.size_append];rfl
  have m1:l1[i].f4.size≤80:=ha _ (List.getElem_mem U);have ae:iH l1 (i:Int)=l1[i]:=Ng.Et U;have af:iR l2 (j:Int)=l2[j]:=Ng.FU I
  have aa:∀(x:S38),x.f4.size≤1000→sized (l1.set i x) l2=true:=fun x X=>by
    unfold sized
    simp only[Bool.and_eq_true,decide_eq_true_eq,List.all_eq_true]
    exact⟨⟨by rw[List.length_set];omega,by omega⟩,size_set D X⟩
  have Z:∀(x:S40),sized l1 (l2.set j x)=true:=fun x=>by
    unfold sized
    simp only[Bool.and_eq_true,decide_eq_true_eq,List.all_eq_true]
    exact⟨⟨by omega,by rw[List.length_set];omega⟩,D⟩
  unfold eO.f;simp only[Option.bind_some,List.length_nil,ai,ah,if_true,List.nil_append,hi,hj,hq,ht,t0,t1,t2,t3,ti,tj,wi,wj,ae,af,aj];have q8:q=0∨q=1∨q=2∨q=3∨q=4∨q=5∨q=6∨q=7:=by omega
  rcases q8 with rfl|rfl|rfl|rfl|rfl|rfl|rfl|rfl;all_goals simp(config:={decide:=true}) only[if_true,if_false]
  · exact⟨_,_,_,_,rfl,aa _ (by show l1[i].f4.size≤1000;omega),yg g1 g2 D L U (by show l1[i].f4.size≤1000;omega) (by decide) (fun kk nn G=>AU kk G (Or.inl (by show 9<wrap64 (10+(t:Int));unfold wrap64;omega)))⟩
  · exact⟨_,_,_,_,rfl,aa _ (by show l1[i].f4.size≤1000;omega),yg g1 g2 D L U (by show l1[i].f4.size≤1000;omega) (by decide) (fun kk nn G=>AU kk G (Or.inr (Or.inl ⟨rfl,by show wrap64 ((i:Int)+1+(t:Int))≠0;unfold wrap64;omega,by show(i:Int)+1≤wrap64 ((i:Int)+1+(t:Int));unfold wrap64;omega⟩)))⟩
  · exact⟨_,_,_,_,rfl,aa _ (by show l1[i].f4.size≤1000;omega),yg g1 g2 D L U (by show l1[i].f4.size≤1000;omega) (by decide) (fun kk nn G=>AU kk G (Or.inr (Or.inr ⟨rfl,rfl,by show 8≤wrap64 (8+(t:Int));unfold wrap64;omega⟩)))⟩
  · have X:∃r,(((⟨#[120]⟩:ByteArray)++S).data.toList)=120::r:=⟨S.data.toList,by simp[ByteArray.data_append]⟩
    (have ab:((⟨#[120]⟩:ByteArray)++S).toList≠[]:=by obtain⟨r,hr⟩:=X;rw[ByteArray.toList_eq,hr];exact List.cons_ne_nil _ _);exact⟨_,_,_,_,rfl,aa _ (by show((⟨#[120]⟩:ByteArray)++S).size≤1000;omega),yg g1 g2 D L U (by show((⟨#[120]⟩:ByteArray)++S).size≤1000;omega) (by decide) (fun kk nn G=>F7 kk nn G (Lr X) ab)⟩
  · exact ⟨_, _, _, _, rfl, Z _, yE (x := { f0 := l2[j].f0, f1 := l2[j].f1, f2 := wrap64 (4 + (t : Int)), f3 := l2[j].f3, f4 := l2[j].f4 }) g0 g1 g2 D L Y I rfl (show (17 : Int) ≠ 0 by decide) (fun G => by
      unfold vD at G;rw[wT l2 I]at G;exact IZ G (Or.inr ⟨rfl,rfl,by show 3<wrap64 (4+(t:Int));unfold wrap64;omega⟩))⟩
  · exact ⟨_, _, _, _, rfl, Z _, yE (x := { f0 := l2[j].f0, f1 := wrap64 (wrap64 ((l1.length : Int) + 1) + (t : Int)), f2 := l2[j].f2, f3 := l2[j].f3, f4 := l2[j].f4 }) g0 g1 g2 D L Y I rfl (show (17 : Int) ≠ 0 by decide) (fun G => by
      unfold vD at G;rw[wT l2 I]at G;refine IZ G (Or.inl ?_);unfold iC;refine if_neg (fun c=>?_);have c2:=c.2;have:=IK l1.length t (by omega) (by omega);rw[show(({f0:=l2[j].f0,f1:=wrap64 (wrap64 ((l1.length:Int)+1)+(t:Int)),f2:=l2[j].f2,f3:=l2[j].f3,f4:=l2[j].f4}:S40).f1)=wrap64 (wrap64 ((l1.length:Int)+1)+(t:Int))from rfl,this]at c2;omega)⟩
  · exact ⟨_, _, _, _, rfl, Z _, yE (x := { f0 := l2[j].f0, f1 := l2[j].f1, f2 := l2[j].f2, f3 := wrap64 (10 + (t : Int)), f4 := l2[j].f4 }) g0 g1 g2 D L Y I rfl (show (17 : Int) ≠ 0 by decide) (fun G => by
      unfold vD at G;rw[wT l2 I]at G;exact(Fe (x':={f0:=l2[j].f0,f1:=l2[j].f1,f2:=l2[j].f2,f3:=wrap64 (10+(t:Int)),f4:=l2[j].f4}) G rfl).1.trans (Lm (by show 9<wrap64 (10+(t:Int));unfold wrap64;omega)))⟩
  · have X:∃r,(((⟨#[63]⟩:ByteArray)++S).data.toList)=63::r:=⟨S.data.toList,by simp[ByteArray.data_append]⟩
    (have ab:((⟨#[63]⟩:ByteArray)++S).toList≠[]:=by obtain⟨r,hr⟩:=X;rw[ByteArray.toList_eq,hr];exact List.cons_ne_nil _ _);exact ⟨_, _, _, _, rfl, Z _, yE (x := { f0 := l2[j].f0, f1 := l2[j].f1, f2 := l2[j].f2, f3 := l2[j].f3, f4 := (⟨#[63]⟩ : ByteArray) ++ S }) g0 g1 g2 D L Y I rfl (show (18 : Int) ≠ 0 by decide) (fun G => by
      unfold vD at G;rw[wT l2 I]at G;obtain⟨e1,e2⟩:=Fe (x':={f0:=l2[j].f0,f1:=l2[j].f1,f2:=l2[j].f2,f3:=l2[j].f3,f4:=(⟨#[63]⟩:ByteArray)++S}) G rfl;exact e1.trans (Hl e2 (Jp X) ab))⟩
theorem CW(k:Nat)(hk:200≤k):iX.f k=some true:=JW (f:=iX.f) iX.mono iX.ok hk
theorem Kn(nm:ByteArray)(l1:List S38)(l2:List S40)(a b c:Int)(S:ByteArray):∃k,kG.f k nm l1 l2 a b c S=some true:=by
  obtain⟨K,L⟩:=JK (l1:=l1) (l2:=l2) (s:=nm);obtain⟨q,Y,D⟩:∃q,K≤q+1∧2000≤q:=⟨K+2000,by omega,by omega⟩
  refine⟨q+1,?_⟩;obtain⟨t,ht,h⟩:=L (q+1) Y;unfold kG.f;rw[ht];simp only[Option.bind_some];have wk:kG.j0 (q+1) true nm l1 l2 a b c S=some true:=by
    rw[kG.j0,if_pos rfl,CW q (by omega)];rfl
  cases t with
  |false=>exact wk
  |true=>
    rw[if_pos rfl];by_cases hs:(S.size:Int)>80
    · rw[decide_eq_true hs];exact wk
    · rw[decide_eq_false hs,kG.j0,if_neg (by decide)]
      obtain⟨_,_,Z,n,G⟩:=h rfl;obtain⟨_,_,_,e,X,U,I⟩:=Gh nm l1 l2 a b c S (by omega) Z G;rw[X];simp only[Option.bind_some];unfold qX.f;rw[if_pos U,I q D];simp only[Option.bind_some,if_true];rw[CW q (by omega)];rfl
theorem E9(nm:ByteArray)(A1:Option Addr)(c1:Nat)(l1:List S38)(A2:Option Addr)(c2:Nat)(l2:List S40)(a b c:Int)(S:ByteArray)(w:World)(D:Tab w)(U:Kd.C k38 w A1 l1.length l1)(I:l1.length≤c1)(G:Kd.C k40 w A2 l2.length l2)(L:l2.length≤c2)(o1:∀n∈l1,Row.okV n.f0 n.f1 n.f2 n.f3 n.f4)(X:∀n∈l2,Row.okV n.f0 n.f1 n.f2 n.f3 n.f4):
    Calls Tryz.prog 4 #[.agg #[.string nm, .slice A1 l1.length c1, .slice A2 l2.length c2], .agg #[.int .i64 a, .int .i64 b, .int .i64 c, .string S]] w fun e w'=>e= .returned (.bool true)∧Below w.heap.size w w':=by
  obtain⟨k,hk⟩:=Kn nm l1 l2 a b c S;exact kG.calls k nm A1 c1 l1 A2 c2 l2 a b c S true w D U I G L rfl hk
end Go.Proofs.Pure
