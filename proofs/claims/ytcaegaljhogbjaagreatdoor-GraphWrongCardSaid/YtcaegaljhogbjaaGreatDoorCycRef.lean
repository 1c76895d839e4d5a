/- What a cycle's text means, as plain functions; how a text. -/
import Derived.Test.YtcaegaljhogbjaaGreatDoorQx1
import Derived.Test.YtcaegaljhogbjaaGreatDoorQx3
import Derived.Test.YtcaegaljhogbjaaGreatDoorSpanRef
set_option linter.unusedVariables false
namespace Go.Proofs.Cyc
open Span Ext
def Fz(n:Nat)(q:List UInt8):Nat×Nat×Nat:=
  if(kH q).2=0 then(if(kH q).1=0 then(0,0,6)else(n,(kH q).1,0))else(0,0,(kH q).2)
def zh(r:List UInt8):Nat×Nat×Nat:=
  if r.head?=some 47 then(0,0,5)
  else if nD r<1∨7<nD r∨r.getD 0 0=48∨nD r=r.length∨r.getD (nD r) 0≠47 then(0,0,2)
  else if 1000000<val (r.take (nD r))then(0,0,3)
  else Fz (val (r.take (nD r))) (r.drop (nD r+1))
def wZ(l:List UInt8):Nat×Nat×Nat:=
  match l with
  |82::r=>zh r
  |_=>(0,0,2)
theorem Kh(r:List UInt8):wZ (82::r)=zh r:=rfl
theorem E5(l:List UInt8)(h:¬l.head?=some 82):wZ l=(0,0,2):=by
  unfold wZ
  split
  · exact absurd rfl h
  · rfl
theorem Iy(l:List UInt8)(c:UInt8)(h:(cutV l c).2.2=true):l=(cutV l c).1++c::(cutV l c).2.1∧∀d∈(cutV l c).1,d≠c:=by
  unfold cutV at*;by_cases I:Lib.indexByte l c<0
  · rw[if_pos I]at h;cases h
  · rw[if_neg I]
    have L:=Lib.indexByte_ge l c;obtain⟨k,hk⟩:=Int.eq_ofNat_of_zero_le (show 0≤Lib.indexByte l c by omega);have D:=DW _ _ _ hk;obtain⟨h1,h2⟩:=Lib.indexByte_some hk;rw[hk,Int.toNat_natCast];dsimp only;constructor
    · have:l.drop k=c::l.drop (k+1):=by
        rw[List.drop_eq_getElem_cons D];congr 1;rw[List.getElem?_eq_getElem D]at h1;exact Option.some.inj h1
      rw[←this,List.take_append_drop]
    · intro d hd e
      obtain⟨j,_,G⟩:=List.mem_take_iff_getElem.mp hd;apply h2 j (by omega);rw[List.getElem?_eq_getElem (by omega),G,e]
theorem JL(l:List UInt8)(c:UInt8)(h:(cutV l c).2.2=false):(cutV l c).1=l∧∀d∈l,d≠c:=by
  unfold cutV at*;by_cases G:Lib.indexByte l c<0
  · rw[if_pos G]
    have I:=Lib.indexByte_ge l c;(have hi:Lib.indexByte l c= -1:=by omega);refine⟨rfl,fun d hd e=>?_⟩;obtain⟨j,L,D⟩:=List.mem_iff_getElem.mp hd;apply Lib.indexByte_none hi j;rw[List.getElem?_eq_getElem L,D,e]
  · rw[if_neg G]at h;cases h
theorem K7(l:List UInt8)(h:∀c∈l,isD c=true):nD l=l.length:=by
  induction l with
  |nil=>rfl
  |cons c l ih=>rw[nD,if_pos (h c (by simp)),ih (fun d hd=>h d (by simp[hd])),List.length_cons]
theorem Ip(l:List UInt8)(h:¬ ∀c∈l,isD c=true):nD l<l.length:=by
  induction l with
  |nil=>exact absurd (by simp) h
  |cons c l ih=>
    by_cases D:isD c=true
    · rw[nD,if_pos D,List.length_cons]
      have:=ih (fun G=>h (by intro d hd;rcases List.mem_cons.mp hd with rfl|hd;exact D;exact G d hd));omega
    · rw[nD,if_neg D,List.length_cons];omega
theorem DX(l:List UInt8)(j:Nat)(h:j<l.length):l.getD j 0∈l:=by
  rw[List.getD_eq_getElem?_getD,List.getElem?_eq_getElem h];exact List.getElem_mem h
theorem Js(r D:List UInt8)(q:List UInt8)(I:r=D++q)(Z:q=[]∨∃t,q=47::t)(hs:∀d∈D,d≠47)(L:¬ ∀c∈D,isD c=true):zh r=(0,0,2):=by
  have G:=Ip D L;have X:nD r=nD D:=by rw[I];exact Gy D q G
  have Y:r.getD (nD r) 0=D.getD (nD D) 0:=by
    rw[X,I,List.getD_eq_getElem?_getD,List.getD_eq_getElem?_getD,List.getElem?_append_left G]
  have U:r.getD (nD r) 0≠47:=by rw[Y];exact hs _ (DX D _ G)
  unfold zh;rw[if_neg,if_pos (Or.inr (Or.inr (Or.inr (Or.inr U))))];intro e;cases D with
  |nil=>simp at G
  |cons d D=>
    rw[I]at e;exact hs d (by simp) (Option.some.inj e)
open RowKit PW B Q
theorem Ih(l:List UInt8)(hl:l.length≤140737488351232):rC.f (S l)=some (((kH l).1:Int),((kH l).2:Int)):=by
  unfold rC.f;rw[if_pos (by rw[kM];exact hl),sP]
theorem I7(c:UInt8)(l:List UInt8):stringslite_HasPrefix.f (S l) ⟨#[c]⟩=some (l.head?==some c):=by
  have G:(⟨#[c]⟩:ByteArray).size=1:=rfl;unfold stringslite_HasPrefix.f;rw[G];cases l with
  |nil=>rw[if_neg (by rw[kM];simp)];rfl
  |cons d l=>
    rw[if_pos (by rw[kM,List.length_cons];omega),if_pos (by omega),if_pos (by rw[kM,List.length_cons];omega)];refine congrArg some ?_;have D:(S (d::l)).extract 0 (((1:Nat):Int).toNat)=S [d]:=EU (d::l) 1;rw[D,Lib.toList_data,Lib.toList_data,sP];(show([d]==[c])=(some d==some c));by_cases h:d=c
    · subst h;simp
    · have:([d]==[c])=false:=by rw[beq_eq_false_iff_ne];intro e;exact h (List.cons.inj e).1
      rw[this];symm;rw[beq_eq_false_iff_ne];intro e;exact h (Option.some.inj e)
theorem G5(c:UInt8)(r:List UInt8):strings_CutPrefix.f (S (c::r)) ⟨#[c]⟩=some (S r,true):=by
  have D:(⟨#[c]⟩:ByteArray).size=1:=rfl;unfold strings_CutPrefix.f stringslite_CutPrefix.f;rw[I7,Option.bind_some,D,if_pos (by simp),if_pos (by omega),if_pos (by rw[kM,List.length_cons];omega),Option.bind_some];have G:(S (c::r)).extract (((1:Nat):Int).toNat) (S (c::r)).size=S r:=zB (c::r) 1;rw[G]
theorem Ka(c:UInt8)(l:List UInt8)(h:¬l.head?=some c):strings_CutPrefix.f (S l) ⟨#[c]⟩=some (S l,false):=by
  have D:(l.head?==some c)=false:=by rw[beq_eq_false_iff_ne];exact h
  unfold strings_CutPrefix.f stringslite_CutPrefix.f;rw[I7,Option.bind_some,D,if_neg (by decide),Option.bind_some]
theorem KF(l:List UInt8)(hl:l.length≤140737488351232)(c:UInt8):strings_Cut.f (S l) ⟨#[c]⟩=some (S (cutV l c).1,S (cutV l c).2.1,(cutV l c).2.2):=by
  unfold strings_Cut.f;rw[if_pos ⟨by rw[kM];exact hl,rfl⟩,sP];rfl
theorem rT(n:Nat)(h:n≤200000000000000):wrap64 ((n:Int)+1)=((n+1:Nat):Int):=by unfold wrap64;omega
def V(r:Nat×Nat×Nat):Option (Int×Int×Int):=some ((r.1:Int),(r.2.1:Int),(r.2.2:Int))
theorem Mi (L:ByteArray) (D:List UInt8) (U:Bool) (R:Option (Int×Int×Int)) (hl:D.length≤140737488351232) (I:nD D<D.length→R=V (0,0,2))
    (G:nD D=D.length→∀k,1≤k→(if U=true then(if(((S D).size:Nat):Int)>7 then ko.j2 k L (S D) true else(if 0<(((S D).size:Nat):Int)then ko.j2 k L (S D) ((bt (S D) 0)==48)else none))else ko.j2 k L (S D) true)=R):
    ∀m j k:Nat,nD D-j=m→j≤nD D→m+1<k→ko.l0 k L (S D) U ((D.length:Nat):Int) j=R:=by
  have Z:=uL D;intro m
  induction m with
  |zero=>
    intro j k X Y hk;(obtain rfl:j=nD D:=by omega);(obtain⟨k,rfl⟩:∃i,k=i+1:=⟨k-1,by omega⟩);simp only[ko.l0];by_cases h:nD D<D.length
    · have hd:=Cv D h
      rw[←Bool.not_eq_true,ug]at hd;rw[if_pos (by omega),if_pos (by omega),if_pos (by rw[kM];omega),wu,I h]
      split
      · rfl
      · split
        · rfl
        · exfalso;apply hd;constructor<;>omega
    · rw[if_neg (by omega)]
      exact G (by omega) k (by omega)
  |succ m ih=>
    intro j k X Y hk;(obtain⟨k,rfl⟩:∃i,k=i+1:=⟨k-1,by omega⟩);have hd:=(ug _).mp (BO D j (by omega));simp only[ko.l0];rw[if_pos (by omega),if_pos (by omega),if_pos (by rw[kM];omega),wu,if_neg (by omega),if_neg (by omega),rT j (by omega)];exact ih (j+1) k (by omega) (by omega) (by omega)
theorem ME(D q:List UInt8)(G:q.length≤140737488351232)(k:Nat)(hk:1≤k)(h1:nD D=D.length)(h2:D.length≤7)(L:D≠[]):
    ko.j2 k (S q) (S D) false=if 1000000<val D then V (0,0,3)else V (Fz (val D) q):=by
  obtain⟨k,rfl⟩:∃i,k=i+1:=⟨k-1,by omega⟩
  have hd:∀c∈D,isD c=true:=by
    have:=xV D;rw[h1,List.take_length]at this;exact this
  have I:strconv_Atoi.f (S D)=some (((val D:Nat):Int),none):=by
    unfold strconv_Atoi.f;rw[if_pos ⟨by rw[kM];omega,by rw[sP];exact L,by rw[sP,List.all_eq_true];exact hd⟩,sP]
  simp only[ko.j2];rw[if_neg (by decide),I,Option.bind_some];by_cases h:1000000<val D
  · rw[if_pos (by omega),if_pos h];rfl
  · rw[if_neg (by omega),if_neg h,Ih q G,Option.bind_some]
    unfold Fz V;by_cases c1:(kH q).2=0
    · rw[if_pos (by omega),if_pos c1]
      by_cases c2:(kH q).1=0
      · rw[if_pos (by omega),if_pos c2];rfl
      · rw[if_neg (by omega),if_neg c2];rfl
    · rw[if_neg (by omega),if_neg c1];rfl
theorem Gv(l:List UInt8)(hl:l.length≤140737488351232)(k:Nat)(hk:l.length+4<k):ko.f k (S l)=V (wZ l):=by
  unfold ko.f;by_cases Z:l.head?=some 82
  · obtain⟨r,rfl⟩:∃r,l=82::r:=by
      cases l with
      |nil=>cases Z
      |cons d r=>exact⟨r,by rw[Option.some.inj Z]⟩
    have hr:r.length≤140737488351232:=by rw[List.length_cons]at hl;omega
    have al:r.length+5<k:=by rw[List.length_cons]at hk;omega
    obtain⟨k,rfl⟩:∃i,k=i+1:=⟨k-1,by omega⟩
    rw[G5,Option.bind_some,if_pos rfl,KF r hr,Option.bind_some,Kh]
    cases hs:(cutV r 47).2.2 with
    |true=>
      obtain⟨e,I⟩:=Iy r 47 hs;generalize(cutV r 47).1=D at*;generalize(cutV r 47).2.1=q at*;(have ak:D.length≤r.length:=by rw[e,List.length_append];omega);(have am:q.length≤r.length:=by rw[e,List.length_append,List.length_cons];omega);rw[if_pos rfl];simp only[ko.j0];by_cases Y:D=[]
      · subst Y
        (have:((S ([]:List UInt8)).toList==([]:List UInt8))=true:=by rw[Lib.toList_data,sP];rfl);rw[this,if_pos rfl];unfold zh;rw[if_pos (by rw[e];rfl)];rfl
      · have:((S D).toList==([]:List UInt8))=false:=by rw[Lib.toList_data,sP,beq_eq_false_iff_ne];exact Y
        rw[this,if_neg (by decide),kM];have hh:¬r.head?=some 47:=by
          cases D with
          |nil=>exact absurd rfl Y
          |cons d D=>rw[e];intro e2;exact I d (by simp) (Option.some.inj e2)
        refine Mi (S q) D true (V (zh r)) (by omega) ?_ ?_ (nD D) 0 k (by omega) (by omega) (by have:=uL D;omega)
        · intro ai
          congr 1;refine Js r D _ e (Or.inr ⟨q,rfl⟩) I ?_;intro G;rw[K7 D G]at ai;omega
        · intro G k af
          (have ae:∀c∈D,isD c=true:=by have:=xV D;rw[G,List.take_length]at this;exact this);(have U:nD r=D.length:=by rw[e];exact KS D ae 47 rfl q);(have ht:r.take (nD r)=D:=by rw[U,e];exact List.take_left' rfl);have hg:r.getD (nD r) 0=47:=by
            rw[U,e,List.getD_eq_getElem?_getD,List.getElem?_append_right (Nat.le_refl _)];simp
          (have aj:r.drop (nD r+1)=q:=by rw[U,e,List.drop_append];simp);have ah:r.getD 0 0=D.getD 0 0:=by
            cases D with
            |nil=>exact absurd rfl Y
            |cons d D=>rw[e];rfl
          (have L:nD r≠r.length:=by rw[U,e,List.length_append,List.length_cons];omega);have h1:1≤D.length:=by
            cases D with
            |nil=>exact absurd rfl Y
            |cons d D=>rw[List.length_cons];omega
          have ag:bt (S D) 0=(((D.getD 0 0).toNat:Nat):Int):=wu D 0;have aa:ko.j2 k (S q) (S D) true=V (0,0,2):=by
            (obtain⟨k,rfl⟩:∃i,k=i+1:=⟨k-1,by omega⟩);simp only[ko.j2,if_true];rfl
          rw[if_pos rfl];unfold zh;rw[if_neg hh,ht,aj,U,ah];by_cases c7:7<D.length
          · rw[if_pos (by rw[kM];omega),aa,if_pos (Or.inr (Or.inl c7))]
          · rw[if_neg (by rw[kM];omega),if_pos (by rw[kM];omega),ag]
            by_cases X:D.getD 0 0=48
            · rw[X,if_pos (Or.inr (Or.inr (Or.inl rfl)))]
              exact aa
            · have:((((D.getD 0 0).toNat:Nat):Int)==48)=false:=by rw[beq_eq_false_iff_ne];intro h;exact X ((Bz _).mp h)
              have ab:¬(D.length<1∨7<D.length∨D.getD 0 0=48∨D.length=r.length∨r.getD D.length 0≠47):=by
                rintro(h|h|h|h|h)
                · omega
                · omega
                · exact X h
                · rw[U]at L;exact L h
                · rw[U]at hg;exact h hg
              rw[this,ME D q (by omega) k af G (by omega) Y,if_neg ab]
              split<;>rfl
    |false=>
      obtain⟨e,I⟩:=JL r 47 hs;rw[if_neg (by decide),e];simp only[ko.j0];rw[if_neg (by decide),kM];have Z:zh r=(0,0,2):=by
        unfold zh;rw[if_neg,if_pos]
        · by_cases hx:nD r=r.length
          · exact Or.inr (Or.inr (Or.inr (Or.inl hx)))
          · exact Or.inr (Or.inr (Or.inr (Or.inr (I _ (DX r _ (by have:=uL r;omega))))))
        · intro e2
          cases r with
          |nil=>cases e2
          |cons d r=>exact I d (by simp) (Option.some.inj e2)
      rw[Z];refine Mi _ r false (V (0,0,2)) hr (fun _=>rfl) ?_ (nD r) 0 k (by omega) (by omega) (by have:=uL r;omega);intro _ k af;(obtain⟨k,rfl⟩:∃i,k=i+1:=⟨k-1,by omega⟩);rw[if_neg (by decide)];simp only[ko.j2,if_true];rfl
  · rw[Ka 82 l Z,Option.bind_some,if_neg (show ¬(false=true) by decide),E5 l Z];rfl
def V3(r:Nat×Nat×Nat):Option (Int×Int×Int):=some ((r.1:Int),(r.2.1:Int),(r.2.2:Int))
theorem JV(v c:Nat)(D:v<1000000000000000)(h1:48≤c)(h2:c≤57):wrap64 (wrap64 (10*(v:Int))+((c:Int)-48)%256)=((v*10+(c-48):Nat):Int):=by unfold wrap64;omega
theorem zC(r:List UInt8)(j:Nat):(82::r).getD (1+j) 0=r.getD j 0:=by rw[Nat.add_comm,List.getD_cons_succ]
theorem MO(r:List UInt8)(hl:r.length+1≤140737488351232)(Y:¬r.head?=some 47)(Z:Int)(hx:nD r≤8→Z=((val (r.take (nD r)):Nat):Int))(k:Nat)(hk:2*r.length+30<k):
    eT.j3 k (S (82::r)) ((1+nD r:Nat):Int) Z false 0 0=V3 (zh r):=by
  obtain⟨k,rfl⟩:∃i,k=i+2:=⟨k-2,by omega⟩
  have hn:=uL r;have L:(S (82::r)).size=r.length+1:=by rw[kM];rfl
  have D:eT.j4 (k+1) (S (82::r)) ((1+nD r:Nat):Int) Z true 0 0=V3 (0,0,2):=by simp only[eT.j4,if_true];rfl
  have X:bt (S (82::r)) 1=(((r.getD 0 0).toNat:Nat):Int):=wu (82::r) 1;have U:bt (S (82::r)) ((1+nD r:Nat):Int)=(((r.getD (nD r) 0).toNat:Nat):Int):=by rw[wu,zC]
  have hw:wrap64 (((1+nD r:Nat):Int)+1)=((1+nD r+1:Nat):Int):=rT _ (by omega);simp only[eT.j3];rw[if_neg (by decide),X,U,L];unfold zh;rw[if_neg Y];by_cases c1:nD r<1
  · rw[if_pos (by omega),D,if_pos (Or.inl c1)]
  · rw[if_neg (by omega)]
    by_cases c7:7<nD r
    · rw[if_pos (by omega),D,if_pos (Or.inr (Or.inl c7))]
    · rw[if_neg (by omega),if_pos (by omega)]
      by_cases G:r.getD 0 0=48
      · rw[if_pos ((Bz _).mpr G),D,if_pos (Or.inr (Or.inr (Or.inl G)))]
      · rw[if_neg (fun h=>G ((Bz _).mp h))]
        by_cases cl:nD r=r.length
        · rw[if_pos (by omega),D,if_pos (Or.inr (Or.inr (Or.inr (Or.inl cl))))]
        · rw[if_neg (by omega),if_pos (by omega),if_pos (by omega)]
          by_cases cs:r.getD (nD r) 0=47
          · have I:((((r.getD (nD r) 0).toNat:Nat):Int) !=47)=false:=by rw[cs];rfl
            have hv:=hx (by omega);rw[I,if_neg (show ¬(nD r<1∨7<nD r∨r.getD 0 0=48∨nD r=r.length∨r.getD (nD r) 0≠47)from fun h=>h.elim c1 (fun h=>h.elim c7 (fun h=>h.elim G (fun h=>h.elim cl (fun h=>h cs)))))];simp only[eT.j4];rw[if_neg (by decide),hv,hw];by_cases cm:1000000<val (r.take (nD r))
            · rw[if_pos (by omega),if_pos cm];rfl
            · have aa:(82::r).drop (1+nD r+1)=r.drop (nD r+1):=by rw[show 1+nD r+1=nD r+1+1 by omega,List.drop_succ_cons]
              (have ab:(S (82::r)).extract (((1+nD r+1:Nat):Int).toNat) (S (82::r)).size=S (r.drop (nD r+1)):=by rw[Int.toNat_natCast,zB,aa]);rw[if_neg (by omega),if_neg cm,if_pos (by omega),if_pos (by rw[L];omega),ab,BK _ (by rw[List.length_drop];omega) k (by rw[List.length_drop];omega)];unfold Span.V;rw[Option.bind_some];unfold Fz V3;generalize r.drop (nD r+1)=q;by_cases d1:(kH q).2=0
              · rw[if_pos (by show(((kH q).2:Nat):Int)=0;omega),if_pos d1]
                by_cases d2:(kH q).1=0
                · rw[if_pos (by show(((kH q).1:Nat):Int)=0;omega),if_pos d2];rfl
                · rw[if_neg (by show ¬(((kH q).1:Nat):Int)=0;omega),if_neg d2];rfl
              · rw[if_neg (by show ¬(((kH q).2:Nat):Int)=0;omega),if_neg d1];rfl
          · have I:((((r.getD (nD r) 0).toNat:Nat):Int) !=47)=true:=by
              rw[bne_iff_ne];intro h;apply cs
              exact UInt8.toNat_inj.mp (by (have h2 : (47 : UInt8).toNat = 47 := rfl); rw[h2];omega)
            rw[I,D,if_pos (Or.inr (Or.inr (Or.inr (Or.inr cs))))]
theorem MK(r:List UInt8)(hl:r.length+1≤140737488351232)(Y:¬r.head?=some 47):
    ∀m j k:Nat,nD r-j=m→j≤nD r→2*m+2*r.length+34<k→∀I:Int,(j≤8→I=((val (r.take j):Nat):Int))→
      eT.l0 k (S (82::r)) ((1+j:Nat):Int) I 0 0=V3 (zh r):=by
  have hn:=uL r;have D:(S (82::r)).size=r.length+1:=by rw[kM];rfl
  intro m
  induction m with
  |zero=>
    intro j k hm hj hk I X;(obtain rfl:j=nD r:=by omega);(obtain⟨k,rfl⟩:∃i,k=i+1:=⟨k-1,by omega⟩);have G:=MO r hl Y I X k (by omega);simp only[eT.l0];by_cases h:nD r<r.length
    · have hd:=Cv r h
      rw[←Bool.not_eq_true,ug]at hd;rw[if_pos (by rw[D];omega),if_pos (by omega),wu,zC]
      split
      · rw[decide_eq_false (by intro h';exact hd ⟨by assumption,h'⟩)];exact G
      · exact G
    · rw[if_neg (by rw[D];omega)];exact G
  |succ m ih=>
    intro j k hm hj hk I X;(obtain⟨k,rfl⟩:∃i,k=i+2:=⟨k-2,by omega⟩);(have Z:j<nD r:=by omega);(have q2:nD r-(j+1)=m:=by omega);(have q3:2*m+2*r.length+34<k:=by omega);(have q4:j<r.length:=by omega);(have q5:1+j≤200000000000000:=by omega);have hd:=(ug _).mp (BO r j Z);(have hb:48≤(r.getD j 0).toNat∧(r.getD j 0).toNat≤57:=by omega);have hw:wrap64 (((1+j:Nat):Int)+1)=((1+(j+1):Nat):Int):=rT _ q5;(have U:bt (S (82::r)) ((1+j:Nat):Int)=(((r.getD j 0).toNat:Nat):Int):=by rw[wu,zC]);simp only[eT.l0];rw[if_pos (by rw[D];omega),if_pos (by omega),U,if_pos (by omega),decide_eq_true (by omega)];simp only[eT.j3,if_true];rw[U,hw];by_cases h9:j<8
    · have hv:=X (by omega)
      have L:=EZ (r.take j) (vE r j (by omega)) (by rw[List.length_take];omega);have hs:=D6 r j q4;rw[if_pos (by omega),if_pos (by omega),if_pos (by rw[D];omega),hv,JV _ _ L hb.1 hb.2,←hs];exact ih (j+1) k q2 Z q3 _ (fun _=>rfl)
    · rw[if_neg (by omega)]
      exact ih (j+1) k q2 Z q3 I (fun h=>absurd h (by omega))
theorem J4(l:List UInt8)(hl:l.length≤140737488351232)(k:Nat)(hk:4*l.length+60<k):eT.f k (S l)=V3 (wZ l):=by
  obtain⟨k,rfl⟩:∃i,k=i+2:=⟨k-2,by omega⟩
  have G:eT.j0 (k+2) (S l) true 0 0=V3 (0,0,2):=by simp only[eT.j0,if_true];rfl
  unfold eT.f;cases l with
  |nil=>rw[if_pos (by rw[kM];simp),G];rfl
  |cons d r=>
    (have D:(S (d::r)).size=r.length+1:=by rw[kM];rfl);have L:bt (S (d::r)) 0=((d.toNat:Nat):Int):=wu (d::r) 0;rw[List.length_cons]at hl hk;rw[if_neg (by rw[D];omega),if_pos (by rw[D];omega),L];by_cases hd:d=82
    · subst hd
      have:((((82:UInt8).toNat:Nat):Int) !=82)=false:=rfl;have U:bt (S (82::r)) 1=(((r.getD 0 0).toNat:Nat):Int):=wu (82::r) 1;rw[this,Kh];simp only[eT.j0];rw[if_neg (by decide),U,D];have go:¬r.head?=some 47→eT.j1 (k+1) (S (82::r)) false 0 0=V3 (zh r):=by
        intro I;simp only[eT.j1];rw[if_neg (by decide)];exact MK r hl I (nD r) 0 k (by omega) (by omega) (by have:=uL r;omega) 0 (fun _=>rfl)
      cases r with
      |nil=>rw[if_neg (by simp)];exact go (by simp)
      |cons e r=>
        rw[if_pos (by rw[List.length_cons];omega),if_pos (by rw[List.length_cons];omega),List.getD_cons_zero];by_cases X:e=47
        · subst X
          have:((((47:UInt8).toNat:Nat):Int)==47)=true:=rfl;rw[this];simp only[eT.j1,if_true];unfold zh;rw[if_pos (show(47::r).head?=some 47 from rfl)];rfl
        · have:(((e.toNat:Nat):Int)==47)=false:=by
            rw[beq_eq_false_iff_ne];intro h;apply X
            exact UInt8.toNat_inj.mp (by (have h2 : (47 : UInt8).toNat = 47 := rfl); rw[h2];omega)
          rw[this]
          exact go (fun h=>X (Option.some.inj h))
    · have Y:(((d.toNat:Nat):Int) !=82)=true:=by
        rw[bne_iff_ne];intro h;apply hd
        exact UInt8.toNat_inj.mp (by (have h2 : (82 : UInt8).toNat = 82 := rfl); rw[h2];omega)
      rw[Y,G,E5 (d::r) (fun h=>hd (Option.some.inj h))]
end Go.Proofs.Cyc
