/- The reference's Lex: what its printed function computes is what the plain one says. -/
import Derived.Test.YtcaegaljhogbjaaGreatDoorGuardParse
import Derived.Test.YtcaegaljhogbjaaGreatDoorRefParse
set_option linter.unusedSimpArgs false
set_option linter.unusedVariables false
namespace Go.Proofs.Lx
open RowKit PW PM G Span
theorem ET(l:List UInt8):trimB (32::l)=trimB l:=by unfold trimB;rw[List.dropWhile_cons];rfl
theorem F8(c:UInt8)(l:List UInt8)(h:c≠32):trimB (c::l)=c::l:=by
  unfold trimB;rw[List.dropWhile_cons,if_neg (by simpa using h)]
theorem Gl(k:Nat)(l:List UInt8)(xs:List kD):wE k (32::l) xs=wE k l xs:=by
  cases k with
  |zero=>rfl
  |succ k=>unfold wE;rw[ET]
theorem Er(k:Nat)(c:UInt8)(l:List UInt8)(xs:List kD)(h:c≠32):wE (k+1) (c::l) xs=if isD c=true then xw (wE k) (c::l) xs else if isA c=true then wE k l (xs++[⟨2,((c.toNat-97:Nat):Int)⟩])else wC (wE k) (c::l) xs:=by
  rw[wE,F8 c l h]
theorem II:∀k:Nat,k<19→qp.f (k:Int)=some (S (TX.getD k [])):=by
  intro k hk;have:k=0∨k=1∨k=2∨k=3∨k=4∨k=5∨k=6∨k=7∨k=8∨k=9∨k=10∨k=11∨k=12∨k=13∨k=14∨k=15∨k=16∨k=17∨k=18:=by omega
  rcases this with e|e|e|e|e|e|e|e|e|e|e|e|e|e|e|e|e|e|e<;>(subst e;rfl)
theorem Hu:∀k,3≤k→k<19→1≤(TX.getD k []).length:=by
  intro k D hk;have:k=3∨k=4∨k=5∨k=6∨k=7∨k=8∨k=9∨k=10∨k=11∨k=12∨k=13∨k=14∨k=15∨k=16∨k=17∨k=18:=by omega
  rcases this with e|e|e|e|e|e|e|e|e|e|e|e|e|e|e|e<;>(subst e;decide)
def cap(v:Nat):Nat:=min v 2147483648
theorem Im(l:List UInt8):∀(a:Nat) (c:UInt8),zq (l++[c]) a=zq l a*10+(c.toNat-48):=by
  induction l with
  |nil=>intro a c;rfl
  |cons d l ih=>intro a c;rw[List.cons_append,uI,uI,ih]
theorem J5(l:List UInt8):∀a,a*10^l.length≤zq l a:=by
  induction l with
  |nil=>intro a;simp[Bj]
  |cons c l ih=>
    intro a;rw[uI,List.length_cons,Nat.pow_succ];refine Nat.le_trans ?_ (ih _);rw[Nat.mul_comm (10^l.length) 10,←Nat.mul_assoc];exact Nat.mul_le_mul_right _ (by omega)
theorem getD_drop(s:List UInt8)(i j:Nat):s.getD (i+j) 0=(s.drop i).getD j 0:=by
  rw[List.getD_eq_getElem?_getD,List.getD_eq_getElem?_getD,List.getElem?_drop]
theorem DV(l:List UInt8):∀j,j<nD l→isD (l.getD j 0)=true:=by
  induction l with
  |nil=>intro j h;cases h
  |cons c l ih=>
    intro j h;rw[nD]at h
    split at h
    · rename_i D
      cases j with
      |zero=>exact D
      |succ j=>exact ih j (by omega)
    · cases h
theorem KQ(l:List UInt8):nD l<l.length→isD (l.getD (nD l) 0)=false:=by
  induction l with
  |nil=>intro h;cases h
  |cons c l ih=>
    intro h;rw[nD]at h⊢;cases hc:isD c with
    |true=>rw[hc,if_pos rfl]at h;rw[if_pos rfl];exact ih (by rw[List.length_cons]at h;omega)
    |false=>rw[if_neg Bool.false_ne_true];exact hc
theorem Cw(v:Nat):(((cap v:Nat):Int)=(v:Int)∧(v:Int)≤2147483648)∨(((cap v:Nat):Int)=2147483648∧(2147483648:Int)≤(v:Int)):=by
  unfold cap;rcases Nat.le_total v 2147483648 with h|h
  · exact Or.inl ⟨by rw[Nat.min_eq_left h],by omega⟩
  · exact Or.inr ⟨by rw[Nat.min_eq_right h];rfl,by omega⟩
theorem Lb(a b:Int):(mn a b=a∧a≤b)∨(mn a b=b∧b≤a):=by
  unfold mn
  split
  · rename_i h;first|exact Or.inl ⟨rfl,by omega⟩|exact Or.inr ⟨rfl,by omega⟩
  · rename_i h;first|exact Or.inl ⟨rfl,by omega⟩|exact Or.inr ⟨rfl,by omega⟩
theorem G9(v c:Nat)(h1:48≤c)(h2:c≤57):mn (wrap64 ((wrap64 (10*((cap v:Nat):Int)))+(((c:Int)-48)%256))) 2147483648=((cap (v*10+(c-48)):Nat):Int):=by
  have a:=Cw v;have b:=Cw (v*10+(c-48));generalize((cap v:Nat):Int)=x at a⊢;generalize((cap (v*10+(c-48)):Nat):Int)=y at b⊢;have G:0≤x∧x≤2147483648:=by omega
  have w1:wrap64 (10*x)=10*x:=by unfold wrap64;omega
  have D:wrap64 (10*x+(((c:Int)-48)%256))=10*x+((c:Int)-48):=by unfold wrap64;omega
  rw[w1,D];have m:=Lb (10*x+((c:Int)-48)) 2147483648;generalize mn (10*x+((c:Int)-48)) 2147483648=z at m⊢;omega
theorem CR(s:List UInt8)(hs:s.length≤60)(xs:List kD)(at_:Nat)(ha:at_≤s.length)(c:Int)(k:Nat):
    ∀d i,nD (s.drop at_)-i=d→i≤nD (s.drop at_)→eG.l1 (k+d+1) (S s) xs (at_:Int) c ((at_+i:Nat):Int) ((cap (val ((s.drop at_).take i)):Nat):Int)=eG.j4 k (S s) xs (at_:Int) c ((at_+nD (s.drop at_):Nat):Int) ((cap (val ((s.drop at_).take (nD (s.drop at_)))):Nat):Int):=by
  have Z:=uL (s.drop at_);rw[List.length_drop]at Z;intro d
  induction d with
  |zero=>
    intro i Y hi;(obtain rfl:i=nD (s.drop at_):=by omega);rw[eG.l1];by_cases he:at_+nD (s.drop at_)<s.length
    · have hd:=KQ (s.drop at_) (by rw[List.length_drop];omega)
      rw[if_pos (by rw[kM];omega),if_pos (by omega),wu,getD_drop];generalize I:(s.drop at_).getD (nD (s.drop at_)) 0=cc at hd;by_cases G:(cc.toNat:Int)≥48
      · rw[if_pos G]
        (have:¬(cc.toNat:Int)≤57:=by intro L;have:=(ug cc).mpr ⟨G,L⟩;rw[this]at hd;cases hd);rw[if_neg this]
      · rw[if_neg G]
    · rw[if_neg (by rw[kM];omega)]
  |succ d ih=>
    intro i Y hi;(have U:i<nD (s.drop at_):=by omega);have hd:=DV (s.drop at_) i U;rw[show k+(d+1)+1=(k+d+1)+1 by omega,eG.l1,if_pos (by rw[kM];omega),if_pos (by omega),wu,getD_drop];have I:(s.drop at_).take (i+1)=(s.drop at_).take i++[(s.drop at_).getD i 0]:=by
      rw[List.take_succ_eq_append_getElem (by rw[List.length_drop];omega),List.getD_eq_getElem?_getD,List.getElem?_eq_getElem (by rw[List.length_drop];omega)];rfl
    have D:=ih (i+1) (by omega) (by omega);rw[I,show val ((s.drop at_).take i++[(s.drop at_).getD i 0])=val ((s.drop at_).take i)*10+(((s.drop at_).getD i 0).toNat-48)from Im _ _ _]at D;generalize hg:(s.drop at_).getD i 0=cc at hd D⊢;have X:=(ug cc).mp hd;rw[if_pos X.1,if_pos X.2,←D];rw[G9 _ _ (by omega) (by omega),show wrap64 (((at_+i:Nat):Int)+1)=((at_+(i+1):Nat):Int) by unfold wrap64;omega]
theorem Hz(s:List UInt8)(i j:Nat):((S s).extract i j).toList=(s.drop i).take (j-i):=by
  rw[Lib.toList_data];simp[S,ByteArray.data_extract,List.extract_eq_take_drop]
theorem yI(l:List UInt8):su l=uT l (TX.drop 3) 3 (0,0):=by
  show uT l ([]::[]::[]::TX.drop 3) 0 (0,0)=_;rw[uT,if_neg (by simp),uT,if_neg (by simp),uT,if_neg (by simp)]
def Found(a b:Nat):Prop:=(a=0∧b=0)∨(3≤a∧a<19∧b=(TX.getD a []).length)
theorem Gm(l:List UInt8):∀d i a b:Nat,19-i=d→3≤i→Found a b→Found (uT l (TX.drop i) i (a,b)).1 (uT l (TX.drop i) i (a,b)).2:=by
  intro d
  induction d with
  |zero=>
    intro i a b I G D;rw[List.drop_eq_nil_of_le (show TX.length≤i from by show 19≤i;omega)];exact D
  |succ d ih=>
    intro i a b I G D;rw[Cc i (by omega),uT];by_cases h:(a,b).2<(TX.getD i []).length∧Lib.hasPrefix l (TX.getD i [])=true
    · rw[if_pos h];exact ih (i+1) _ _ (by omega) (by omega) (Or.inr ⟨G,by omega,rfl⟩)
    · rw[if_neg h];exact ih (i+1) _ _ (by omega) (by omega) D
theorem Ep(s:List UInt8)(hs:s.length≤60)(xs:List kD)(at_:Nat)(ha:at_≤s.length)(k:Nat):
    ∀d i a b:Nat,19-i=d→3≤i→i≤19→Found a b→eG.l2 (k+d+1) (S s) xs (at_:Int) (a:Int) (i:Int)=eG.l2 (k+1) (S s) xs (at_:Int) ((uT (s.drop at_) (TX.drop i) i (a,b)).1:Int) 19:=by
  intro d
  induction d with
  |zero=>
    intro i a b h0 h3 ah hf;(obtain rfl:i=19:=by omega);rw[List.drop_eq_nil_of_le (show TX.length≤19 from by show 19≤19;omega),uT,Nat.add_zero];rfl
  |succ d ih=>
    intro i a b h0 h3 ah hf;(have hi:i<19:=by omega);have hp:=Hu i h3 hi;have ag:=Ec i;(have hw:eD (wrap64 ((i:Int)+1)=((i+1:Nat):Int)):=⟨by unfold wrap64;omega⟩);(have af:eD (wrap64 ((s.length:Int)-(at_:Int))=((s.length-at_:Nat):Int)):=⟨by unfold wrap64;omega⟩);have ai:(s.drop at_).length=s.length-at_:=List.length_drop;rw[Cc i hi,uT,show k+(d+1)+1=(k+d+1)+1 by omega,eG.l2,if_pos (by omega),II i hi,Option.bind_some,kM,kM,hw.out,af.out];(obtain⟨t,ht⟩:∃t,TX.getD i []=t:=⟨_,rfl⟩);have G:=Lib.hasPrefix_of_take (s.drop at_) t;rw[ht]at hp ag⊢;by_cases I:t.length≤(s.drop at_).length
    · have ab:eD (wrap64 ((at_:Int)+(t.length:Int))=((at_+t.length:Nat):Int)):=⟨by unfold wrap64;omega⟩
      have U:=Hz s at_ (at_+t.length);rw[show at_+t.length-at_=t.length by omega]at U;(have c1:((s.length-at_:Nat):Int)≥(t.length:Int):=by omega);(have c2:(0:Int)≤(at_:Int):=by omega);(have c3:(at_:Int)≤((at_+t.length:Nat):Int):=by omega);(have c4:((at_+t.length:Nat):Int)≤(s.length:Int):=by omega);rw[if_pos c1,if_pos c2,ab.out,if_pos c3,if_pos c4,Int.toNat_natCast,Int.toNat_natCast];(have Y:(S t).toList=t:=by rw[Lib.toList_data,sP]);have aa:=kM t;generalize S t=tv at Y aa⊢;generalize(S s).extract at_ (at_+t.length)=ev at U⊢;rw[U,Y];by_cases Z:(s.drop at_).take t.length=t
      · have D:Lib.hasPrefix (s.drop at_) t=true:=by rw[←G,decide_eq_true I,Bool.true_and];exact beq_iff_eq.mpr Z
        rw[if_pos Z];rcases hf with⟨rfl,rfl⟩|⟨ae,L,hb⟩
        · rw[if_pos (show((0:Nat):Int)=0 from rfl),if_pos ⟨by show 0<t.length;omega,D⟩]
          exact ih (i+1) i t.length (by omega) (by omega) (by omega) (Or.inr ⟨h3,hi,by rw[ht]⟩)
        · rw[if_neg (by omega),II a L,Option.bind_some,kM,←hb]
          by_cases X:b<t.length
          · rw[if_pos (by omega),if_pos ⟨X,D⟩]
            exact ih (i+1) i t.length (by omega) (by omega) (by omega) (Or.inr ⟨h3,hi,by rw[ht]⟩)
          · rw[if_neg (by omega),if_neg (fun h=>X h.1)]
            exact ih (i+1) a b (by omega) (by omega) (by omega) (Or.inr ⟨ae,L,hb⟩)
      · have D:Lib.hasPrefix (s.drop at_) t=false:=by
          rw[←G,decide_eq_true I,Bool.true_and];exact beq_eq_false_iff_ne.mpr Z
        rw[if_neg Z,if_neg (fun h=>by rw[D]at h;cases h.2)]
        exact ih (i+1) a b (by omega) (by omega) (by omega) hf
    · have D:Lib.hasPrefix (s.drop at_) t=false:=by rw[←G,decide_eq_false I,Bool.false_and]
      rw[if_neg (by omega),if_neg (fun h=>by rw[D]at h;cases h.2)];exact ih (i+1) a b (by omega) (by omega) (by omega) hf
theorem Fu(c:UInt8):isA c=true↔97≤(c.toNat:Int)∧(c.toNat:Int)≤122:=by
  unfold isA;rw[Bool.and_eq_true,decide_eq_true_eq,decide_eq_true_eq];omega
theorem is32(c:UInt8):((c.toNat:Int)=32)↔c=32:=by
  constructor
  · intro h; exact UInt8.toNat_inj.mp (by (have : c.toNat = 32 := by omega); exact this)
  · rintro rfl;rfl
theorem JN(l:List UInt8):Found (su l).1 (su l).2:=by
  rw[yI];exact Gm l 16 3 0 0 rfl (by omega) (Or.inl ⟨rfl,rfl⟩)
theorem Ga(l:List UInt8)(h:10<nD l)(U:l.getD 0 0≠48):2147483647<val (l.take (nD l)):=by
  have hn:=uL l;cases l with
  |nil=>simp[nD]at h
  |cons c l=>
    have hd:=DV (c::l) 0 (by omega);have I:=(ug ((c::l).getD 0 0)).mp hd;have Z:(c::l).getD 0 0=c:=rfl;rw[Z]at I U;have L:1≤c.toNat-48:=by
      have:c.toNat≠48:=fun e=>U (UInt8.toNat_inj.mp e);omega
    (obtain⟨j,X⟩:∃j,nD (c::l)=j+1:=⟨nD (c::l)-1,by omega⟩);rw[X,List.take_succ_cons];have hv:=J5 (l.take j) (c.toNat-48);(have D:(l.take j).length=j:=by rw[List.length_take];rw[X,List.length_cons]at hn;omega);rw[D]at hv;have hp:(10:Nat)^10≤10^j:=Nat.pow_le_pow_right (by omega) (by omega);(have Y:(10:Nat)^10=10000000000:=by decide);(have G:val (c::l.take j)=zq (l.take j) (c.toNat-48):=by unfold val;rw[uI,Nat.zero_mul,Nat.zero_add]);rw[G];have h1:1*10^j≤(c.toNat-48)*10^j:=Nat.mul_le_mul_right _ L;omega
theorem Jc(s:List UInt8)(hs:s.length≤60):∀(m at_:Nat) (xs:List kD),s.length-at_=m→at_≤s.length→xs.length+m≤60→
    ∃r:List kD×Int,(∀k,100*m+1≤k→eG.l0 k (S s) xs (at_:Int)=some r)∧(∀k,m+1≤k→wE k (s.drop at_) xs=some r)∧r.1.length≤60:=by
  intro m
  induction m using Nat.strongRecOn with
  |_ m ih=>
    intro at_ xs hm ha hx;by_cases h0:m=0
    · refine⟨(xs,0),fun k hk=>?_,fun k hk=>?_,by show xs.length≤60;omega⟩
      · obtain⟨k,rfl⟩:∃j,k=j+1:=⟨k-1,by omega⟩
        rw[eG.l0,if_neg (by rw[kM];omega)]
      · obtain⟨k,rfl⟩:∃j,k=j+1:=⟨k-1,by omega⟩
        rw[List.drop_eq_nil_of_le (by omega)];rfl
    · have aq:at_<s.length:=by omega
      have G:s.drop at_=s.getD at_ 0::s.drop (at_+1):=by
        rw[List.drop_eq_getElem_cons aq,List.getD_eq_getElem?_getD,List.getElem?_eq_getElem aq];rfl
      have aj:=wu s at_;(obtain⟨c,hc⟩:∃c,s.getD at_ 0=c:=⟨_,rfl⟩);rw[hc]at G aj;have aE:=c.toNat_lt;(have hw:eD (wrap64 ((at_:Int)+1)=((at_+1:Nat):Int)):=⟨by unfold wrap64;omega⟩);have first:∀k,eG.l0 (k+1) (S s) xs (at_:Int)=if(c.toNat:Int)=32 then eG.l0 k (S s) xs ((at_+1:Nat):Int)else if(c.toNat:Int)≥97 then eG.j1 k (S s) xs at_ c.toNat (decide ((c.toNat:Int)≤122))else eG.j1 k (S s) xs at_ c.toNat false:=by
        intro k;rw[eG.l0,if_pos (by rw[kM];omega),if_pos (by omega),aj,hw.out]
      by_cases U:c=32
      · obtain⟨r,r1,r2,r3⟩:=ih (m-1) (by omega) (at_+1) xs (by omega) (by omega) (by omega)
        refine⟨r,fun k hk=>?_,fun k hk=>?_,r3⟩
        · obtain⟨k,rfl⟩:∃j,k=j+1:=⟨k-1,by omega⟩
          rw[first,if_pos ((is32 c).mpr U)];exact r1 k (by omega)
        · rw[G,U,Gl];exact r2 k (by omega)
      · have al:¬(c.toNat:Int)=32:=fun h=>U ((is32 c).mp h)
        cases hA:isA c with
        |true=>
          have ai:=(Fu c).mp hA;have hD:isD c=false:=by
            cases hd:isD c with
            |false=>rfl
            |true=>have:=(ug c).mp hd;omega
          (have he:((c.toNat:Int)-97)%256=((c.toNat-97:Nat):Int):=by omega);obtain⟨r,r1,r2,r3⟩:=ih (m-1) (by omega) (at_+1) (xs++[⟨2,((c.toNat-97:Nat):Int)⟩]) (by omega) (by omega) (by rw[List.length_append,List.length_singleton];omega);refine⟨r,fun k hk=>?_,fun k hk=>?_,r3⟩
          · obtain⟨k,rfl⟩:∃j,k=j+2:=⟨k-2,by omega⟩
            rw[first,if_neg al,if_pos ai.1,decide_eq_true ai.2,eG.j1,if_pos rfl,if_pos (by omega),he,hw.out];exact r1 k (by omega)
          · obtain⟨k,rfl⟩:∃j,k=j+1:=⟨k-1,by omega⟩
            rw[G,Er k c _ xs U,if_neg (by rw[hD];exact Bool.false_ne_true),if_pos hA];exact r2 k (by omega)
        |false=>
          have am:∀k,eG.l0 (k+2) (S s) xs (at_:Int)=if(c.toNat:Int)≥48 then eG.j2 k (S s) xs at_ c.toNat (decide ((c.toNat:Int)≤57))else eG.j2 k (S s) xs at_ c.toNat false:=by
            intro k;rw[first,if_neg al];by_cases ab:(c.toNat:Int)≥97
            · have ao:decide ((c.toNat:Int)≤122)=false:=decide_eq_false (fun h=>by rw[(Fu c).mpr ⟨ab,h⟩]at hA;cases hA)
              rw[if_pos ab,ao,eG.j1,if_neg Bool.false_ne_true]
            · rw[if_neg ab,eG.j1,if_neg Bool.false_ne_true]
          cases hD:isD c with
          |true=>
            have ap:=(ug c).mp hD;have aB:=uL (s.drop at_);(have ae:(s.drop at_).length=m:=by rw[List.length_drop];exact hm);(have aA:1≤nD (s.drop at_):=by rw[G,nD,if_pos hD];omega);(have ak:(s.drop at_).getD 0 0=c:=by rw[G];rfl);have I:=CR s hs xs at_ ha (c.toNat:Int);have D:∀k,wE (k+1) (s.drop at_) xs=xw (wE k) (s.drop at_) xs:=by
              intro k;have h:=Er k c (s.drop (at_+1)) xs U;rw[if_pos hD,←G]at h;exact h
            have Z:=Ga (s.drop at_);rw[ak]at Z;(obtain⟨d,hd⟩:∃d,nD (s.drop at_)=d:=⟨_,rfl⟩);rw[hd]at aB aA I Z;have L:∀k,xw (wE k) (s.drop at_) xs=if c=48∧1<d then some ([],2)else if 10<d∨2147483647<val ((s.drop at_).take d)then some ([],3)else wE k ((s.drop at_).drop d) (xs++[⟨1,(val ((s.drop at_).take d):Nat)⟩]):=by
              intro k;unfold xw;rw[ak,hd]
            (obtain⟨v,hv⟩:∃v,val ((s.drop at_).take d)=v:=⟨_,rfl⟩);rw[hv]at I Z;simp only[hv]at L;have aD:=Cw v;have X:∀k,eG.l0 (k+d+4) (S s) xs (at_:Int)=eG.j4 k (S s) xs (at_:Int) c.toNat ((at_+d:Nat):Int) ((cap v:Nat):Int):=by
              intro k;have h:=I k d 0 (by omega) (by omega);rw[show k+d+4=(k+d+1+1)+2 by omega,am,if_pos ap.1,decide_eq_true ap.2,eG.j2,if_pos rfl];exact h
            by_cases hz:c=48∧1<d
            · refine⟨([],2),fun k hk=>?_,fun k hk=>?_,by show 0≤60;omega⟩
              · obtain⟨k,rfl⟩:∃j,k=(j+2)+d+4:=⟨k-d-6,by omega⟩
                rw[X,eG.j4,if_pos ((Bz c).mpr hz.1),hw.out,decide_eq_true (show((at_+d:Nat):Int)>((at_+1:Nat):Int) by omega),eG.j5,if_pos rfl]
              · obtain⟨k,rfl⟩:∃j,k=j+1:=⟨k-1,by omega⟩
                rw[D,L,if_pos hz]
            · have ah:∀k,eG.l0 (k+d+5) (S s) xs (at_:Int)=eG.j5 k (S s) xs ((at_+d:Nat):Int) ((cap v:Nat):Int) false:=by
                intro k;rw[show k+d+5=(k+1)+d+4 by omega,X,eG.j4];by_cases ag:c=48
                · rw[if_pos ((Bz c).mpr ag),hw.out,decide_eq_false (show ¬((at_+d:Nat):Int)>((at_+1:Nat):Int) by have:¬1<d:=fun h=>hz ⟨ag,h⟩;omega)]
                · rw[if_neg (fun h=>ag ((Bz c).mp h))]
              by_cases Y:10<d∨2147483647<v
              · have aF:2147483647<v:=by
                  rcases Y with h|h
                  · exact Z h (fun e=>hz ⟨e,by omega⟩)
                  · exact h
                refine⟨([],3),fun k hk=>?_,fun k hk=>?_,by show 0≤60;omega⟩
                · obtain⟨k,rfl⟩:∃j,k=(j+1)+d+5:=⟨k-d-6,by omega⟩
                  rw[ah,eG.j5,if_neg Bool.false_ne_true,if_pos (by omega)]
                · obtain⟨k,rfl⟩:∃j,k=j+1:=⟨k-1,by omega⟩
                  rw[D,L,if_neg hz,if_pos Y]
              · have aw:((cap v:Nat):Int)=(v:Int):=by omega
                obtain⟨r,r1,r2,r3⟩:=ih (m-d) (by omega) (at_+d) (xs++[⟨1,(v:Int)⟩]) (by omega) (by omega) (by rw[List.length_append,List.length_singleton];omega);refine⟨r,fun k hk=>?_,fun k hk=>?_,r3⟩
                · obtain⟨k,rfl⟩:∃j,k=(j+1)+d+5:=⟨k-d-6,by omega⟩
                  rw[ah,eG.j5,if_neg Bool.false_ne_true,aw,if_neg (by omega),if_pos (by omega)];exact r1 k (by omega)
                · obtain⟨k,rfl⟩:∃j,k=j+1:=⟨k-1,by omega⟩
                  rw[D,L,if_neg hz,if_neg Y,List.drop_drop];exact r2 k (by omega)
          |false=>
            have au:∀k,eG.l0 (k+2) (S s) xs (at_:Int)=eG.j2 k (S s) xs at_ c.toNat false:=by
              intro k;rw[am];by_cases af:(c.toNat:Int)≥48
              · rw[if_pos af,decide_eq_false (fun h=>by rw[(ug c).mpr ⟨af,h⟩]at hD;cases hD)]
              · rw[if_neg af]
            have ay:=Ep s hs xs at_ ha;have hF:=JN (s.drop at_);have aC:=AA (s.drop at_);(have ae:(s.drop at_).length=m:=by rw[List.length_drop];exact hm);have D:∀k,wE (k+1) (s.drop at_) xs=wC (wE k) (s.drop at_) xs:=by
              intro k;have h:=Er k c (s.drop (at_+1)) xs U;rw[if_neg (by rw[hD];exact Bool.false_ne_true),if_neg (by rw[hA];exact Bool.false_ne_true),←G]at h;exact h
            unfold wC at D;have h3:=yI (s.drop at_);(obtain⟨a,an⟩:∃a,(su (s.drop at_)).1=a:=⟨_,rfl⟩);(obtain⟨b,ar⟩:∃b,(su (s.drop at_)).2=b:=⟨_,rfl⟩);have X:∀k,eG.l0 (k+20) (S s) xs (at_:Int)=eG.l2 (k+1) (S s) xs (at_:Int) (a:Int) 19:=by
              intro k;have h:=ay k 16 3 0 0 rfl (by omega) (by omega) (Or.inl ⟨rfl,rfl⟩);rw[←h3,an]at h;rw[show k+20=(k+16+1+1)+2 by omega,au,eG.j2,if_neg Bool.false_ne_true];exact h
            simp only[an,ar]at D hF aC;rcases hF with⟨rfl,rfl⟩|⟨ax,aa,hb⟩
            · refine⟨([],2),fun k hk=>?_,fun k hk=>?_,by show 0≤60;omega⟩
              · obtain⟨k,rfl⟩:∃j,k=j+20:=⟨k-20,by omega⟩
                rw[X,eG.l2,if_neg (by omega),if_pos (show((0:Nat):Int)=0 from rfl)]
              · obtain⟨k,rfl⟩:∃j,k=j+1:=⟨k-1,by omega⟩
                rw[D,if_pos rfl]
            · have az:=Hu a ax aa
              rw[←hb]at az;(have av:eD (wrap64 ((at_:Int)+(b:Int))=((at_+b:Nat):Int)):=⟨by unfold wrap64;omega⟩);obtain⟨r,r1,r2,r3⟩:=ih (m-b) (by omega) (at_+b) (xs++[⟨(a:Int),0⟩]) (by omega) (by omega) (by rw[List.length_append,List.length_singleton];omega);refine⟨r,fun k hk=>?_,fun k hk=>?_,r3⟩
              · obtain⟨k,rfl⟩:∃j,k=j+20:=⟨k-20,by omega⟩
                rw[X,eG.l2,if_neg (by omega),if_neg (by omega),if_pos (by omega),II a aa,Option.bind_some,kM,←hb,av.out];exact r1 k (by omega)
              · obtain⟨k,rfl⟩:∃j,k=j+1:=⟨k-1,by omega⟩
                rw[D,if_neg (by omega),List.drop_drop];exact r2 k (by omega)
theorem Gi(D:ByteArray):∃r:List kD×Int,vO.f D=some r∧(∀k,6001≤k→eG.f k D=some r)∧r.1.length≤60:=by
  obtain⟨s,rfl⟩:∃s,D=S s:=⟨_,(GA D).symm⟩
  unfold vO.f eG.f;simp only[kM,sP];by_cases h:s.length>60
  · refine⟨([],15),if_pos h,fun k hk=>if_pos (by omega),by show 0≤60;omega⟩
  · obtain⟨r,r1,r2,G⟩:=Jc s (by omega) s.length 0 [] rfl (by omega) (by simp only[List.length_nil];omega)
    refine⟨r,?_,fun k hk=>?_,G⟩
    · rw[if_neg h];exact r2 _ (Nat.le_refl _)
    · rw[if_neg (by omega)];exact r1 k (by omega)
end Go.Proofs.Lx
namespace Go.Proofs.Gd
open RowKit G Lx Rg
def rank:NT→Nat
  | .factor=>1| .product=>2| .sum=>3| .one=>4| .some=>5| .guard=>6
def wG(l:List kD)(r:R):Prop:=∃x,r=some x∧∀l',x=some l'→l'.length<l.length
theorem Gb(U:List kD→R)(L:List Int)(m:Nat)(H:∀l,l.length<m→wG l (U l)):∀(j:Nat) (l:List kD),l.length<j→l.length≤m→∃x,rows U L j l=some x∧∀l',x=some l'→l'.length≤l.length:=by
  intro j
  induction j with
  |zero=>intro l h;cases h
  |succ j ih=>
    intro l Z hm;cases l with
    |nil=>exact⟨some [],rfl,fun l' h=>by cases h;exact Nat.le_refl _⟩
    |cons c l=>
      rw[List.length_cons]at Z hm;rw[rows];by_cases I:L.contains c.f0=true
      · rw[if_pos I]
        obtain⟨x,Y,G⟩:=H l (by omega);rw[Y];cases x with
        |none=>exact⟨none,rfl,fun l' h=>by cases h⟩
        |some r=>
          have hr:=G r rfl;obtain⟨y,X,D⟩:=ih r (by omega) (by omega);exact⟨y,X,fun l' h=>by have:=D l' h;rw[List.length_cons];omega⟩
      · rw[if_neg I];exact⟨some (c::l),rfl,fun l' h=>by cases h;exact Nat.le_refl _⟩
theorem yX(I:List kD→R)(L:List Int)(l:List kD)(k:Nat)(H:∀l',l'.length≤l.length→wG l' (I l'))(hk:l.length<k):wG l (row I L k l):=by
  obtain⟨x,X,G⟩:=H l (Nat.le_refl _);unfold row;rw[X];cases x with
  |none=>exact⟨none,rfl,fun l' h=>by cases h⟩
  |some r=>
    have Y:=G r rfl;obtain⟨y,U,D⟩:=Gb I L l.length (fun l' h=>H l' (by omega)) k r (by omega) (by omega);exact⟨y,U,fun l' h=>by have:=D l' h;omega⟩
theorem Dq{kd:Int}{l l':List kD}(h:pass kd l=some l'):l'.length<l.length:=by
  cases l with
  |nil=>cases h
  |cons c l=>
    by_cases D:c.f0=kd
    · rw[pass,if_pos D]at h
      cases h;exact Nat.lt_succ_self _
    · rw[pass,if_neg D]at h;cases h
theorem xP{kd:Int}{l:List kD}(h:sees kd l=true):(l.drop 1).length<l.length:=by
  cases l with
  |nil=>cases h
  |cons c l=>rw[List.length_cons];show l.length<_;omega
theorem Jy:∀(n k:Nat) (Z:NT) (l:List kD),6*l.length+rank Z≤k→k≤n→wG l (Gd.gd k Z l):=by
  intro n
  induction n with
  |zero=>intro k Z l h hk;cases Z<;>simp[rank]at h<;>omega
  |succ n ih=>
    intro k Z l h hk;(obtain⟨k,rfl⟩:∃j,k=j+1:=⟨k-1,by cases Z<;>simp[rank]at h<;>omega⟩);have I:∀G (l':List kD),6*l'.length+rank G≤k→wG l' (Gd.gd k G l'):=fun G l' h'=>ih k G l' h' (by omega);(have short:∀G (l':List kD),l'.length<l.length→6*l'.length+rank G≤6*l.length:=fun G l' h'=>by cases G<;>simp only[rank]<;>omega);cases Z with
    |guard=>simp only[rank]at h;exact yX _ _ _ _ (fun l' hl=>I .some l' (by simp only[rank];omega)) (by omega)
    |some=>simp only[rank]at h;exact yX _ _ _ _ (fun l' hl=>I .one l' (by simp only[rank];omega)) (by omega)
    |sum=>simp only[rank]at h;exact yX _ _ _ _ (fun l' hl=>I .product l' (by simp only[rank];omega)) (by omega)
    |product=>simp only[rank]at h;exact yX _ _ _ _ (fun l' hl=>I .factor l' (by simp only[rank];omega)) (by omega)
    |one=>
      simp only[rank]at h;unfold Gd.gd;by_cases aa:sees 14 l=true
      · rw[if_pos aa]
        have hs:=xP aa;obtain⟨x,L,D⟩:=I .one (l.drop 1) (by have:=short .one _ hs;omega);exact⟨x,L,fun l' e=>by have:=D l' e;omega⟩
      · rw[if_neg aa]
        by_cases Y:sees 15 l=true
        · rw[if_pos Y]
          have hs:=xP Y;obtain⟨x,L,D⟩:=I .guard (l.drop 1) (by have:=short .guard _ hs;omega);rw[L];cases x with
          |none=>exact⟨none,rfl,fun l' e=>by cases e⟩
          |some r=>
            refine⟨pass 16 r,rfl,fun l' e=>?_⟩;have:=Dq e;have:=D r rfl;omega
        · rw[if_neg Y]
          obtain⟨x,L,D⟩:=I .sum l (by simp only[rank];omega);rw[L]
          match x,D with
          |none,_=>exact⟨none,rfl,fun l' e=>by cases e⟩
          |some [],_=>exact⟨none,rfl,fun l' e=>by cases e⟩
          |some (c::r),D=>
            have hr:=D (c::r) rfl;rw[List.length_cons]at hr;show wG l (if compares c.f0=true then Gd.gd k .sum r else some none);by_cases hc:compares c.f0=true
            · rw[if_pos hc]
              obtain⟨y,hy,ab⟩:=I .sum r (by have:=short .sum r (by omega);omega);exact⟨y,hy,fun l' e=>by have:=ab l' e;omega⟩
            · rw[if_neg hc];exact⟨none,rfl,fun l' e=>by cases e⟩
    |factor=>
      simp only[rank]at h;unfold Gd.gd;by_cases U:(sees 1 l||sees 2 l)=true
      · rw[if_pos U]
        refine⟨some (l.drop 1),rfl,fun l' e=>?_⟩;cases e;rcases Bool.or_eq_true_iff.mp U with e|e<;>exact xP e
      · rw[if_neg U]
        by_cases h4:sees 4 l=true
        · rw[if_pos h4]
          have hs:=xP h4;obtain⟨x,L,D⟩:=I .factor (l.drop 1) (by have:=short .factor _ hs;omega);exact⟨x,L,fun l' e=>by have:=D l' e;omega⟩
        · rw[if_neg h4]
          by_cases X:sees 17 l=true
          · rw[if_pos X]
            have hs:=xP X;obtain⟨x,L,D⟩:=I .sum (l.drop 1) (by have:=short .sum _ hs;omega);rw[L];cases x with
            |none=>exact⟨none,rfl,fun l' e=>by cases e⟩
            |some r=>
              refine⟨pass 18 r,rfl,fun l' e=>?_⟩;have:=Dq e;have:=D r rfl;omega
          · rw[if_neg X];exact⟨none,rfl,fun l' e=>by cases e⟩
theorem zV(I:ByteArray)(k:Nat)(hk:7000≤k):∃e:Int,tO.f k I=some e∧rM.f k I=some e:=by
  obtain⟨⟨xs,D⟩,h1,h2,U⟩:=Gi I;have X:xs.length≤60:=U;obtain⟨x,L,_⟩:=Jy k k .guard xs (by simp only[rank];omega) (Nat.le_refl _);unfold tO.f rM.f;rw[h1,h2 k (by omega),Option.bind_some,Option.bind_some];by_cases G:D=0
  · refine⟨Le x,?_,?_⟩
    · show(if D=0 then(if xs.length≤900 then _ else none)else some D)=_
      rw[if_pos G,if_pos (by omega),L];rfl
    · show(if D=0 then(if xs.length≤900 then _ else none)else some D)=_
      rw[if_pos G,if_pos (by omega),L];rfl
  · exact⟨D,if_neg G,if_neg G⟩
def guardE(D:ByteArray):Int:=(tO.f 7000 D).getD 0
theorem Aj(D:ByteArray):tO.f 7000 D=some (guardE D):=by
  obtain⟨e,h1,_⟩:=zV D 7000 (Nat.le_refl _);unfold guardE;rw[h1];rfl
theorem Gp(D:ByteArray):rM.f 7000 D=some (guardE D):=by
  obtain⟨e,h1,h2⟩:=zV D 7000 (Nat.le_refl _);unfold guardE;rw[h1,h2];rfl
theorem Bu(D:ByteArray)(w:World)(I:Wrong w):Calls Tryz.prog 46 #[.string D] w fun e w'=>∃G:Value,e= .returned (.tuple #[G, .int .i64 (guardE D)])∧Below w.heap.size w w':=tO.calls 7000 D _ w I (Aj D)
theorem zR(D:ByteArray)(w:World):Calls Tryz.prog 50 #[.string D] w fun e w'=>∃G:Value,e= .returned (.tuple #[G, .int .i64 (guardE D)])∧Below w.heap.size w w':=rM.calls 7000 D _ w (Gp D)
end Go.Proofs.Gd
