/- Plain laws of durations: a numeral in front of a unit is. -/
import Derived.Test.YtcaegaljhogbjaaGreatDoorQx2
set_option linter.unusedVariables false
namespace Go.Proofs.Span
theorem F6(l:List UInt8):∀(a:Nat) (c:UInt8),zq (l++[c]) a=zq l a*10+(c.toNat-48):=by
  induction l with
  |nil=>intro a c;rfl
  |cons d l ih=>intro a c;rw[List.cons_append,uI,uI,ih]
theorem KS(l:List UInt8)(h:∀c∈l,isD c=true)(u:UInt8)(D:isD u=false)(r:List UInt8):nD (l++u::r)=l.length:=by
  induction l with
  |nil=>simp[nD,D]
  |cons c l ih=>
    rw[List.cons_append,nD,if_pos (h c (by simp)),ih (fun d hd=>h d (by simp[hd])),List.length_cons]
theorem FI(r:List UInt8):kH (80::r)=if r.head?=some 84 then vV r 0 else wP r:=rfl
def vX(l:List UInt8):Prop:=¬(nD l<1∨15<nD l∨nD l=l.length∨(l.getD 0 0=48∧1<nD l))
theorem Ea(l:List UInt8)(h:vX l):qP l=(val (l.take (nD l)),(l.getD (nD l) 0).toNat,l.drop (nD l+1)):=if_neg h
theorem Ck(l:List UInt8)(h:¬vX l):qP l=(0,0,[]):=if_pos (Classical.not_not.mp h)
theorem Gy(l q:List UInt8)(h:nD l<l.length):nD (l++q)=nD l:=by
  induction l with
  |nil=>simp at h
  |cons c l ih=>
    rw[List.cons_append,nD,nD];by_cases D:isD c=true
    · rw[if_pos D,if_pos D]
      rw[nD,if_pos D,List.length_cons]at h;rw[ih (by omega)]
    · rw[if_neg D,if_neg D]
theorem Dj(c:UInt8)(q:List UInt8)(h:c≠84)(t:Nat):vV (c::q) t=(0,2):=by
  unfold vV
  split
  · rename_i D;exact absurd (List.cons.inj D).1 h
  · rfl
theorem xY(c:UInt8)(q:List UInt8)(h:c≠80):kH (c::q)=(0,2):=by
  unfold kH
  split
  · rename_i D;exact absurd (List.cons.inj D).1 h
  · rfl
open RowKit PW Ext B Q
def okN(t:List UInt8):Prop:=¬(nD t<1∨15<nD t∨(t.getD 0 0=48∧1<nD t))
instance(t:List UInt8):Decidable (okN t):=by unfold okN;exact inferInstance
theorem rT(n:Nat)(h:n≤200000000000000):wrap64 ((n:Int)+1)=((n+1:Nat):Int):=by unfold wrap64;omega
theorem Md(a n:Nat)(h:n≤200000000000000):wrap64 (((a+n:Nat):Int)-(a:Int))=((n:Nat):Int):=by unfold wrap64;omega
theorem accum(v c:Nat)(D:v<1000000000000000)(h1:48≤c)(h2:c≤57):IntKind.u64.wrap (IntKind.u64.wrap ((v:Int)*10)+((c:Int)-48)%256)=((v*10+(c-48):Nat):Int):=by rw[IntKind.wrap_u64,IntKind.wrap_u64];omega
theorem wY(l:List UInt8)(a j:Nat):(l.drop a).getD j 0=l.getD (a+j) 0:=by
  rw[List.getD_eq_getElem?_getD,List.getD_eq_getElem?_getD,List.getElem?_drop]
theorem D6(t:List UInt8)(j:Nat)(h:j<t.length):val (t.take (j+1))=val (t.take j)*10+((t.getD j 0).toNat-48):=by
  unfold val;rw[List.take_succ_eq_append_getElem h,F6];congr 2;rw[List.getD_eq_getElem?_getD,List.getElem?_eq_getElem h];rfl
theorem vE(t:List UInt8)(j:Nat)(h:j≤nD t):∀c∈t.take j,isD c=true:=by
  intro c D;refine xV t c ?_;have:t.take j=(t.take (nD t)).take j:=by rw[List.take_take];congr 1;omega
  rw[this]at D;exact List.mem_of_mem_take D
theorem K5(l:List UInt8)(a:Nat)(hl:l.length≤140737488351232)(ha:a≤l.length)(aa:nD (l.drop a)≤15):
    ∀m j k:Nat,nD (l.drop a)-j=m→j≤nD (l.drop a)→m<k→
      eU.l1 k (S l) ((a+nD (l.drop a):Nat):Int) ((val ((l.drop a).take j):Nat):Int) ((a+j:Nat):Int)=some (((val ((l.drop a).take (nD (l.drop a))):Nat):Int),((a+nD (l.drop a):Nat):Int),true):=by
  have Y:=uL (l.drop a);rw[List.length_drop]at Y;intro m
  induction m with
  |zero=>
    intro j k hm U hk;(obtain rfl:j=nD (l.drop a):=by omega);(obtain⟨k,rfl⟩:∃i,k=i+1:=⟨k-1,by omega⟩);simp only[eU.l1];rw[if_neg (by omega)]
  |succ m ih=>
    intro j k hm U hk;(obtain⟨k,rfl⟩:∃i,k=i+1:=⟨k-1,by omega⟩);(have q1:((a+j:Nat):Int)<((a+nD (l.drop a):Nat):Int):=by omega);(have L:0≤((a+j:Nat):Int):=by omega);(have X:((a+j:Nat):Int)<(((S l).size:Nat):Int):=by rw[kM];omega);(have q4:nD (l.drop a)-(j+1)=m:=by omega);(have G:j+1≤nD (l.drop a):=by omega);(have q6:m<k:=by omega);(have q7:a+j≤200000000000000:=by omega);(have q8:j<(l.drop a).length:=by rw[List.length_drop];omega);(have Z:((l.drop a).take j).length≤15:=by rw[List.length_take];omega);have hd:=BO (l.drop a) j G;have I:48≤((l.drop a).getD j 0).toNat∧((l.drop a).getD j 0).toNat≤57:=by
      unfold isD at hd;rw[Bool.and_eq_true,decide_eq_true_eq,decide_eq_true_eq]at hd;exact hd
    have hv:=EZ ((l.drop a).take j) (vE _ j (Nat.le_of_succ_le G)) Z;have hs:=D6 (l.drop a) j q8;(have D:bt (S l) ((a+j:Nat):Int)=((((l.drop a).getD j 0).toNat:Nat):Int):=by rw[wu,wY]);have hw:wrap64 (((a+j:Nat):Int)+1)=((a+(j+1):Nat):Int):=rT (a+j) q7;have hx:IntKind.u64.wrap (IntKind.u64.wrap (((val ((l.drop a).take j):Nat):Int)*10)+(((((l.drop a).getD j 0).toNat:Nat):Int)-48)%256)=((val ((l.drop a).take (j+1)):Nat):Int):=by
      rw[hs];exact accum _ _ hv I.1 I.2
    simp only[eU.l1];rw[if_pos q1,if_pos L,if_pos X,D,hx,hw];exact ih (j+1) k q4 G q6
def FV(l:List UInt8)(a:Nat):Int×Int×Bool:=if okN (l.drop a)then(((val ((l.drop a).take (nD (l.drop a))):Nat):Int),((a+nD (l.drop a):Nat):Int),true)else(0,(a:Int),false)
theorem KA(l:List UInt8)(a:Nat)(hl:l.length≤140737488351232)(Y:a≤l.length)(k:Nat)(hk:nD (l.drop a)+3<k):
    eU.j1 k (S l) a ((a+nD (l.drop a):Nat):Int)=some (FV l a):=by
  obtain⟨k,rfl⟩:∃i,k=i+2:=⟨k-2,by omega⟩
  have U:=uL (l.drop a);rw[List.length_drop]at U;have X:wrap64 (((a+nD (l.drop a):Nat):Int)-(a:Int))=((nD (l.drop a):Nat):Int):=Md a _ (by omega);have L:bt (S l) (a:Int)=((((l.drop a).getD 0 0).toNat:Nat):Int):=by rw[wu,wY,Nat.add_zero]
  have D:eU.j2 (k+1) (S l) a ((a+nD (l.drop a):Nat):Int) true=some (0,(a:Int),false):=by simp only[eU.j2,if_true]
  have I:nD (l.drop a)≤15→eU.j2 (k+1) (S l) a ((a+nD (l.drop a):Nat):Int) false=some (((val ((l.drop a).take (nD (l.drop a))):Nat):Int),((a+nD (l.drop a):Nat):Int),true):=by
    intro G;simp only[eU.j2];rw[if_neg (by decide)];exact K5 l a hl Y G (nD (l.drop a)) 0 k (by omega) (by omega) (by omega)
  simp only[eU.j1];rw[X,L];unfold FV;by_cases c1:nD (l.drop a)<1
  · rw[if_pos (by omega),D,if_neg (show ¬okN (l.drop a)from fun h=>h (Or.inl c1))]
  · rw[if_neg (by omega)]
    by_cases c2:15<nD (l.drop a)
    · rw[if_pos (by omega),D,if_neg (show ¬okN (l.drop a)from fun h=>h (Or.inr (Or.inl c2)))]
    · rw[if_neg (by omega),if_pos (by omega),if_pos (by rw[kM];omega)]
      by_cases c3:(l.drop a).getD 0 0=48
      · rw[if_pos (by rw[c3];rfl)]
        by_cases c4:1<nD (l.drop a)
        · rw[decide_eq_true (by omega),D,if_neg (show ¬okN (l.drop a)from fun h=>h (Or.inr (Or.inr ⟨c3,c4⟩)))]
        · rw[decide_eq_false (by omega),I (by omega),if_pos (show okN (l.drop a)from fun h=>h.elim c1 (fun h=>h.elim c2 (fun h=>c4 h.2)))]
      · rw[if_neg (by intro h;exact c3 ((Bz _).mp h)),I (by omega),if_pos (show okN (l.drop a)from fun h=>h.elim c1 (fun h=>h.elim c2 (fun h=>c3 h.1)))]
theorem KE(l:List UInt8)(a:Nat)(hl:l.length≤140737488351232)(U:a≤l.length):
    ∀m j k:Nat,nD (l.drop a)-j=m→j≤nD (l.drop a)→m+nD (l.drop a)+5<k→eU.l0 k (S l) a ((a+j:Nat):Int)=some (FV l a):=by
  have X:=uL (l.drop a);rw[List.length_drop]at X;intro m
  induction m with
  |zero=>
    intro j k I L hk;(obtain rfl:j=nD (l.drop a):=by omega);(obtain⟨k,rfl⟩:∃i,k=i+1:=⟨k-1,by omega⟩);have D:=KA l a hl U k (by omega);simp only[eU.l0];by_cases Y:a+nD (l.drop a)<l.length
    · have hd:=Cv (l.drop a) (by rw[List.length_drop];omega)
      rw[←Bool.not_eq_true,ug]at hd;rw[if_pos (by rw[kM];omega),if_pos (by omega),wu,←wY]
      split
      · split
        · exact absurd ⟨by assumption,by assumption⟩ hd
        · exact D
      · exact D
    · rw[if_neg (by rw[kM];omega)];exact D
  |succ m ih=>
    intro j k I L hk;(obtain⟨k,rfl⟩:∃i,k=i+1:=⟨k-1,by omega⟩);have hd:=(ug _).mp (BO (l.drop a) j (by omega));have G:wrap64 (((a+j:Nat):Int)+1)=((a+(j+1):Nat):Int):=rT (a+j) (by omega);simp only[eU.l0];rw[if_pos (by rw[kM];omega),if_pos (by omega),wu,←wY,if_pos hd.1,if_pos hd.2,G];exact ih (j+1) k (by omega) (by omega) (by omega)
theorem Kj(l:List UInt8)(a:Nat)(hl:l.length≤140737488351232)(G:a≤l.length)(k:Nat)(hk:2*l.length+6<k):eU.f k (S l) a=some (FV l a):=by
  have D:=uL (l.drop a);rw[List.length_drop]at D;exact KE l a hl G (nD (l.drop a)) 0 k (by omega) (by omega) (by omega)
def cap(t:Nat):Nat:=if t≤1125899906842624 then t else 1125899906842625
theorem CO(t n u:Nat)(I:n<1000000000000000)(D:u=604800∨u=86400∨u=3600∨u=60∨u=1):kF.f (cap t) n u=some ((cap (qR t n u):Nat):Int):=by
  unfold kF.f;have G:cap t≤1125899906842625:=by unfold cap;split<;>omega
  rw[if_pos ⟨by omega,by omega,by omega,by omega,by omega⟩];refine congrArg some ?_;unfold KU cap qR yU;rcases D with rfl|rfl|rfl|rfl|rfl
  all_goals
    (try rw[if_pos (show n*_<18446744073709551616 by omega)])
    repeat' split
    all_goals omega
theorem FC(t:Nat):(if((cap t:Nat):Int)>1125899906842624 then some ((0:Int),(3:Int))else some (((cap t:Nat):Int),0))=some (((vI t).1:Int),((vI t).2:Int)):=by
  unfold cap vI
  split
  · rw[if_neg (by omega),if_neg (by omega)];rfl
  · rw[if_pos (by omega),if_pos (by omega)];rfl
def V(r:Nat×Nat):Option (Int×Int):=some ((r.1:Int),(r.2:Int))
theorem vo(t:List UInt8):vX t↔okN t∧nD t≠t.length:=by
  unfold vX okN;constructor
  · intro h
    refine⟨fun D=>h ?_,fun D=>h (Or.inr (Or.inr (Or.inl D)))⟩;rcases D with D|D|D
    · exact Or.inl D
    · exact Or.inr (Or.inl D)
    · exact Or.inr (Or.inr (Or.inr D))
  · rintro⟨h1,h2⟩ D
    rcases D with D|D|D|D
    · exact h1 (Or.inl D)
    · exact h1 (Or.inr (Or.inl D))
    · exact h2 D
    · exact h1 (Or.inr (Or.inr D))
def AY(f:Nat)(t:List UInt8)(s:Nat)(D:Bool)(p:Int):Nat×Nat:=
  if t=[]then(if D=true then vI s else(0,2))else sJ f t s p
theorem Gq(f:Nat)(t:List UInt8)(s:Nat)(i:Int)(h:place (qP t).2.1≠i):sJ f t s (i-1)=sJ f t s i:=by
  cases f with
  |zero=>rfl
  |succ f=>
    rw[sJ,sJ];by_cases c:place (qP t).2.1≤i
    · rw[if_pos c,if_pos (by omega)]
    · rw[if_neg c,if_neg (by omega)]
theorem hms(i:Nat)(h:i<3):bt ⟨#[72,77,83]⟩ (i:Int)=if i=0 then 72 else if i=1 then 77 else 83:=by
  rcases(by omega:i=0∨i=1∨i=2)with rfl|rfl|rfl<;>rfl
theorem JC(i:Nat)(h:i<3):rd [3600,60,1] (i:Int)=((z8 (i:Int):Nat):Int):=by
  rcases(by omega:i=0∨i=1∨i=2)with rfl|rfl|rfl<;>rfl
theorem BN(u i:Nat)(h:i<3):place u=(i:Int)↔((u:Nat):Int)=(if i=0 then 72 else if i=1 then 77 else 83:Int):=by
  unfold place;rcases(by omega:i=0∨i=1∨i=2)with rfl|rfl|rfl
  all_goals
    constructor
    · intro D;repeat' split at D
      all_goals first|omega|(simp;omega)
    · intro D;simp at D
      (have:u=72∨u=77∨u=83:=by omega);rcases this with rfl|rfl|rfl<;>first|rfl|omega
theorem Ia(l:List UInt8)(hl:l.length≤140737488351232):∀m i:Nat,3-i=m→i≤3→∀(a:Nat) (s f k:Nat) (b:Bool),a≤l.length→4≤f+i→2*l.length+8+m<k→
    eH.l0 k (S l) a ((cap s:Nat):Int) b [3600,60,1] i=V (AY f (l.drop a) s b ((i:Int)-1)):=by
  intro m
  induction m with
  |zero=>
    intro i hm hi a s f k b ha hf hk;(obtain rfl:i=3:=by omega);(obtain⟨k,rfl⟩:∃j,k=j+2:=⟨k-2,by omega⟩);simp only[eH.l0];rw[if_neg (by omega)];have U:sJ f (l.drop a) s (((3:Nat):Int)-1)=(0,2):=by
      cases f with
      |zero=>rfl
      |succ f=>rw[sJ];exact if_pos (Iw _).2
    unfold AY;(have G:l.drop a=[]↔a=l.length:=by rw[List.drop_eq_nil_iff];omega);cases b with
    |false=>
      rw[if_neg (by decide)];simp only[eH.j5,if_true];by_cases I:l.drop a=[]
      · rw[if_pos I,if_neg (by decide)];rfl
      · rw[if_neg I,U];rfl
    |true=>
      rw[if_pos rfl];simp only[eH.j5];by_cases I:l.drop a=[]
      · have:((a:Int) !=(((S l).size:Nat):Int))=false:=by rw[bne_eq_false_iff_eq,kM,G.mp I]
        rw[this,if_neg (by decide),if_pos I];simp only[if_true];exact FC s
      · have:((a:Int) !=(((S l).size:Nat):Int))=true:=by
          rw[bne_iff_ne,kM];intro h;apply I;rw[G];omega
        rw[this,if_pos rfl,if_neg I,U];rfl
  |succ m ih=>
    intro i hm hi a s f k b ha hf hk;(obtain⟨k,rfl⟩:∃j,k=j+1:=⟨k-1,by omega⟩);(have X:i<3:=by omega);(have aa:¬((i:Int)≤(i:Int)-1):=by omega);(have g1:3-(i+1)=m:=by omega);(have g2:i+1≤3:=by omega);(have g3:2*l.length+8+m<k:=by omega);(have g4:4≤f+(i+1):=by omega);(have g5:2*l.length+6<k:=by omega);(have g6:(i:Int)<3:=by omega);(have g7:0≤(i:Int):=by omega);(have e1:((i+1:Nat):Int)-1=(i:Int):=by omega);have ae:wrap64 ((i:Int)+1)=((i+1:Nat):Int):=rT i (by omega);have skip:(l.drop a=[]∨place (qP (l.drop a)).2.1≠(i:Int))→eH.l0 k (S l) a ((cap s:Nat):Int) b [3600,60,1] ((i+1:Nat):Int)=V (AY f (l.drop a) s b ((i:Int)-1)):=by
      intro h;rw[ih (i+1) g1 g2 a s f k b ha g4 g3];congr 1;unfold AY;rw[e1];by_cases I:l.drop a=[]
      · rw[if_pos I,if_pos I]
      · rw[if_neg I,if_neg I,Gq f _ s (i:Int) (h.resolve_left I)]
    have hn:=uL (l.drop a);rw[List.length_drop]at hn;simp only[eH.l0];rw[if_pos g6,Kj l a hl ha k g5,ae];simp only[Option.bind_some];unfold FV;by_cases ok:okN (l.drop a)
    · rw[if_pos ok]
      simp only[if_true];(have h1:1≤nD (l.drop a):=by unfold okN at ok;omega);(have af:l.drop a≠[]:=by intro e;rw[e]at h1;simp[nD]at h1);by_cases ag:a+nD (l.drop a)<l.length
      · have r1:((a+nD (l.drop a):Nat):Int)<(((S l).size:Nat):Int):=by rw[kM];omega
        (have r2:0≤((a+nD (l.drop a):Nat):Int):=by omega);(have r3:a+nD (l.drop a)+1≤l.length:=by omega);(have r4:a+nD (l.drop a)≤200000000000000:=by omega);rw[if_pos r1,if_pos r2,if_pos g7];have ab:vX (l.drop a):=(vo _).mpr ⟨ok,by rw[List.length_drop];omega⟩;have Z:=Ea _ ab;rw[wu,←wY,hms i X];by_cases hu:place (qP (l.drop a)).2.1=(i:Int)
        · have D:=(BN _ i X).mp hu
          rw[Z]at D;rw[if_pos D,if_pos (show(i:Int)<(([3600,60,1]:List Int).length:Int)from g6),JC i X];(have L:val ((l.drop a).take (nD (l.drop a)))<1000000000000000:=by have:=(xR (l.drop a)).1;rw[Z]at this;exact this);rw[CO s _ _ L (by rcases(by omega:i=0∨i=1∨i=2)with rfl|rfl|rfl<;>simp[z8])];simp only[Option.bind_some];have hw:wrap64 (((a+nD (l.drop a):Nat):Int)+1)=((a+nD (l.drop a)+1:Nat):Int):=rT _ r4;(obtain⟨f,rfl⟩:∃g,f=g+1:=⟨f-1,by clear L hw D hu Z;omega⟩);have step:sJ (f+1) (l.drop a) s ((i:Int)-1)=if(l.drop a).drop (nD (l.drop a)+1)=[]then vI (qR s (val ((l.drop a).take (nD (l.drop a)))) (z8 (i:Int)))else sJ f ((l.drop a).drop (nD (l.drop a)+1)) (qR s (val ((l.drop a).take (nD (l.drop a)))) (z8 (i:Int))) (i:Int):=by
            rw[sJ,hu,if_neg aa,Z]
          rw[hw,ih (i+1) g1 g2 (a+nD (l.drop a)+1) _ f k true r3 (by clear L hw D hu Z step;omega) g3];congr 1;unfold AY;(have ed:l.drop (a+nD (l.drop a)+1)=(l.drop a).drop (nD (l.drop a)+1):=by rw[List.drop_drop];congr 1);rw[e1,if_neg af,step,ed,if_pos (rfl:true=true)]
        · have D:=fun h=>hu ((BN _ i X).mpr h)
          rw[Z]at D;rw[if_neg D];exact skip (Or.inr hu)
      · rw[if_neg (by rw[kM];omega)]
        refine skip (Or.inr ?_);have Y:¬vX (l.drop a):=by
          intro h;have:=((vo _).mp h).2;rw[List.length_drop]at this;omega
        rw[Ck _ Y];show place 0≠_;have:place 0= -1:=rfl;omega
    · rw[if_neg ok,if_neg (show ¬(false=true) by decide)]
      refine skip (Or.inr ?_);have Y:¬vX (l.drop a):=fun h=>ok ((vo _).mp h).1;rw[Ck _ Y];show place 0≠_;have:place 0= -1:=rfl;omega
theorem EI(l:List UInt8)(hl:l.length≤140737488351232)(a s k:Nat)(Z:a≤l.length)(hk:2*l.length+13<k):
    eH.j3 k (S l) a ((cap s:Nat):Int)=V (if l.drop a=[]then vI s else vV (l.drop a) s):=by
  obtain⟨k,rfl⟩:∃j,k=j+1:=⟨k-1,by omega⟩
  simp only[eH.j3];by_cases Y:a=l.length
  · have e:l.drop a=[]:=by rw[List.drop_eq_nil_iff];omega
    rw[if_neg (by rw[kM];omega),if_pos e];exact FC s
  · have I:a<l.length:=by omega
    (have U:l.drop a≠[]:=by intro e;rw[List.drop_eq_nil_iff]at e;omega);have X:wrap64 ((a:Int)+1)=((a+1:Nat):Int):=rT a (by omega);rw[if_pos (by rw[kM];omega),if_pos (by omega),if_neg U,wu];have hd:l.drop a=l.getD a 0::l.drop (a+1):=by
      rw[List.getD_eq_getElem?_getD,List.getElem?_eq_getElem I];exact List.drop_eq_getElem_cons I
    by_cases G:l.getD a 0=84
    · have D:(((l.getD a 0).toNat:Nat):Int)=84:=by rw[G];rfl
      rw[if_pos D,X,show(0:Int)=((0:Nat):Int)from rfl,Ia l hl 3 0 (by omega) (by omega) (a+1) s 4 k false (by omega) (by omega) (by omega),hd,G];congr 1;show AY 4 (l.drop (a+1)) s false (-1)=sJ 4 (l.drop (a+1)) s (-1);unfold AY;by_cases L:l.drop (a+1)=[]
      · rw[if_pos L,L];rfl
      · rw[if_neg L]
    · have D:¬(((l.getD a 0).toNat:Nat):Int)=84:=by
        intro h; apply G; exact UInt8.toNat_inj.mp (by (have h2 : (84 : UInt8).toNat = 84 := rfl); rw[h2];omega)
      rw[if_neg D,hd,Dj _ _ G s];rfl
theorem GZ(r:List UInt8)(hl:r.length+1≤140737488351232)(k:Nat)(hk:2*(r.length+1)+15<k)(L:vX r):
    eH.j1 k (S (80::r)) 1 0 ((val (r.take (nD r)):Nat):Int) ((1+nD r:Nat):Int) true=V (wP r):=by
  obtain⟨k,rfl⟩:∃j,k=j+2:=⟨k-2,by omega⟩
  have hx:=Ea r L;have hn:=uL r;have aa:nD r<r.length:=by unfold vX at L;omega
  have Z:=xR r;rw[hx]at Z;have G:val (r.take (nD r))<1000000000000000:=Z.1;have hg:(80::r).getD (1+nD r) 0=r.getD (nD r) 0:=by rw[Nat.add_comm,List.getD_cons_succ]
  have X:(80::r).drop (1+nD r+1)=r.drop (nD r+1):=by rw[show 1+nD r+1=nD r+1+1 by omega,List.drop_succ_cons]
  have hw:wrap64 (((1+nD r:Nat):Int)+1)=((1+nD r+1:Nat):Int):=rT _ (by omega);have D:(80::r).length=r.length+1:=rfl
  have U:∀b:Bool,b=decide (((((r.getD (nD r) 0).toNat:Nat):Int))=89∨((((r.getD (nD r) 0).toNat:Nat):Int))=77)→
      eH.j2 (k+1) (S (80::r)) ((val (r.take (nD r)):Nat):Int) ((1+nD r:Nat):Int) (((r.getD (nD r) 0).toNat:Nat):Int) b=V (wP r):=by
    intro b Y
    subst Y
    simp only[eH.j2,decide_eq_true_eq]
    unfold wP
    rw[hx]
    have c0:((0:Nat):Int)=0:=rfl
    have a1:=CO 0 _ 604800 G (by omega)
    have a2:=CO 0 _ 86400 G (by omega)
    have k0:((cap 0:Nat):Int)=0:=rfl
    rw[k0]at a1 a2
    generalize r.getD (nD r) 0=u at*
    by_cases c1:u.toNat=89∨u.toNat=77
    · rw[if_pos (by omega),if_pos c1];rfl
    · rw[if_neg (by omega),if_neg c1]
      by_cases c2:u.toNat=87
      · have z1:kF.f 0 ((val (r.take (nD r)):Nat):Int) 604800=_:=a1
        rw[if_pos (by omega),if_pos c2,z1,Option.bind_some,hw];by_cases c3:r.drop (nD r+1)=[]
        · have I:1+nD r+1=r.length+1:=by rw[List.drop_eq_nil_iff]at c3;omega
          rw[if_pos (by rw[kM,D];omega),EI (80::r) (by rw[D];omega) _ _ (k) (by rw[D];omega) (by rw[D];omega),X,if_pos c3,if_pos c3]
        · have I:1+nD r+1≠r.length+1:=by intro h;apply c3;rw[List.drop_eq_nil_iff];omega
          rw[if_neg (by rw[kM,D];omega),if_neg c3];rfl
      · rw[if_neg (by omega),if_neg c2]
        by_cases c4:u.toNat=68
        · have z2:kF.f 0 ((val (r.take (nD r)):Nat):Int) 86400=_:=a2
          rw[if_pos (by omega),if_pos c4,z2,Option.bind_some,hw,EI (80::r) (by rw[D];omega) _ _ (k) (by rw[D];omega) (by rw[D];omega),X]
        · rw[if_neg (by omega),if_neg c4];rfl
  simp only[eH.j1,if_true];rw[if_pos (by omega),if_pos (by rw[kM,D];omega),wu,hg];by_cases c:(((r.getD (nD r) 0).toNat:Nat):Int)=89
  · rw[if_pos c]
    exact U _ (by rw[c];rfl)
  · rw[if_neg c]
    refine U _ ?_;by_cases c':(((r.getD (nD r) 0).toNat:Nat):Int)=77
    · rw[c'];rfl
    · rw[decide_eq_false (by rintro(h|h);exact c h;exact c' h),beq_eq_false_iff_ne];exact c'
theorem BK(l:List UInt8)(hl:l.length≤140737488351232)(k:Nat)(hk:2*l.length+20<k):eH.f k (S l)=V (kH l):=by
  obtain⟨k,rfl⟩:∃j,k=j+1:=⟨k-1,by omega⟩
  have bad:eH.j0 (k+1) (S l) true=V (0,2):=by simp only[eH.j0,if_true];rfl
  unfold eH.f;by_cases h2:l.length<2
  · rw[if_pos (by rw[kM];omega),bad]
    congr 1;cases l with
    |nil=>rfl
    |cons c l=>
      have:l=[]:=List.eq_nil_of_length_eq_zero (by rw[List.length_cons]at h2;omega);subst this;by_cases I:c=80
      · subst I;rfl
      · rw[xY c [] I]
  · cases l with
    |nil=>simp at h2
    |cons c r=>
      have Y:bt (S (c::r)) 0=((c.toNat:Nat):Int):=wu (c::r) 0;rw[if_neg (by rw[kM];omega),if_pos (by rw[kM];omega),Y];by_cases I:c=80
      · subst I
        have:((((80:UInt8).toNat:Nat):Int) !=80)=false:=rfl;rw[this];simp only[eH.j0];rw[if_neg (by decide),show(1:Int)=((1:Nat):Int)from rfl,Kj (80::r) 1 hl (by rw[List.length_cons];omega) k (by omega),Option.bind_some];have D:(80::r).length=r.length+1:=rfl;rw[D]at hk hl h2;have L:(80::r).drop 1=r:=rfl;have hn:=uL r;have G:eH.j3 (k-1) (S (80::r)) ((1:Nat):Int) ((cap 0:Nat):Int)=V (vV r 0):=by
          rw[EI (80::r) (by rw[D];omega) 1 0 (k-1) (by rw[D];omega) (by rw[D];omega),L,if_neg (by intro e;rw[e]at h2;simp at h2)]
        have hj:∀n p:Int,¬vX r→eH.j1 k (S (80::r)) ((1:Nat):Int) 0 n p false=V (kH (80::r)):=by
          intro n p aa;(obtain⟨k,rfl⟩:∃j,k=j+1:=⟨k-1,by omega⟩);simp only[eH.j1];rw[if_neg (by decide)];refine Eq.trans G ?_;congr 1;rw[FI];by_cases U:r.head?=some 84
          · rw[if_pos U]
          · rw[if_neg U]
            have e1:vV r 0=(0,2):=by
              cases r with
              |nil=>rfl
              |cons d q=>exact Dj d q (by intro e;apply U;rw[e];rfl) 0
            (have e2:wP r=(0,2):=by unfold wP;rw[Ck _ aa];rfl);rw[e1,e2]
        unfold FV;rw[L];by_cases ok:okN r
        · rw[if_pos ok]
          simp only[if_true];by_cases ab:nD r<r.length
          · have X:vX r:=(vo r).mpr ⟨ok,by omega⟩
            rw[decide_eq_true (by rw[kM,D];omega)];have:=GZ r hl k (by omega) X;refine Eq.trans this ?_;congr 1;rw[FI,if_neg];intro e;have h1:=BO r 0 (by unfold okN at ok;omega);cases r with
            |nil=>cases e
            |cons d q=>
              have:d=84:=Option.some.inj e;rw[List.getD_cons_zero,this]at h1;exact absurd h1 (by decide)
          · rw[decide_eq_false (by rw[kM,D];omega)]
            exact hj _ _ (fun h=>by have:=((vo r).mp h).2;omega)
        · rw[if_neg ok,if_neg (show ¬(false=true) by decide)]
          exact hj _ _ (fun h=>ok ((vo r).mp h).1)
      · have Z:(((c.toNat:Nat):Int) !=80)=true:=by
          rw[bne_iff_ne];intro h;apply I
          exact UInt8.toNat_inj.mp (by (have h2 : (80 : UInt8).toNat = 80 := rfl); rw[h2];omega)
        rw[Z,bad,xY c r I]
end Go.Proofs.Span
