/- What the reference's check lets through is fine for the walk. -/
import Derived.Test.YtcaegaljhogbjaaGreatDoorGraphTotal
import Derived.Test.YtcaegaljhogbjaaGreatDoorMx3
import Derived.Test.YtcaegaljhogbjaaGreatDoorRegSteps
set_option linter.unusedSimpArgs false
set_option linter.unusedVariables false
namespace Go.Proofs.Ng
open RowKit Lib Go.Sort PW PL PM Y Gd Go.Proofs.Gr R
theorem FB{α:Type}(p:α→Bool):∀(l:List α) (i:Nat),(ix p i l).length≤l.length
  |[],i=>Nat.le_refl _
  |x::l,i=>by
    unfold ix
    have:=FB p l (i+1)
    split<;>simp only[List.length_cons]<;>omega
section
variable {l1:List S38} {l2:List S40} {s:ByteArray}
theorem det{α:Type}{g:Nat→Option α}(D:∀k,LeO (g k) (g (k+1))){k K:Nat}{r t:α}(h:g k=some r)(G:g K=some t):r=t:=by
  have a:=xk D (Nat.le_max_left k K) h;have b:=xk D (Nat.le_max_right k K) G;exact Option.some.inj (a.symm.trans b)
theorem JA(D:l2.length≤1000000){k:Nat}{n:Int}{t:List Int}(h:iM.f k s l1 l2 n=some t):t=ins l2 n:=
  det (g:=fun k=>iM.f k s l1 l2 n) (fun k=>iM.mono s l1 l2 n k) h (Ce D n l2.length (l2.length+1) 0 [] (by omega) (by omega) (Nat.zero_le _))
theorem DT(D:l2.length≤1000000){k:Nat}{n:Int}{t:List Int}(h:iD.f k s l1 l2 n=some t):t=outs l2 n:=
  det (g:=fun k=>iD.f k s l1 l2 n) (fun k=>iD.mono s l1 l2 n k) h (yC D n l2.length (l2.length+1) 0 [] (by omega) (by omega) (Nat.zero_le _))
theorem En(D:l1.length≤1000000){k:Nat}{n:Int}{t:List Int}(h:iE.f k s l1 l2 n=some t):t=inside l1 n:=
  det (g:=fun k=>iE.f k s l1 l2 n) (fun k=>iE.mono s l1 l2 n k) h (yB D n l1.length (l1.length+1) 0 [] (by omega) (by omega) (Nat.zero_le _))
theorem ok0(hl:l1.length≤1000){n:Int}:∀(k i:Nat),eu.l0 k (i:Int) s l1 l2=some (n,0)→(∀y:Nat,i≤y→y≤l1.length→∃D,iZ.f D s l1 l2 y=some 0)∧∃D,eu.l1 D 1 s l1 l2=some (n,0)
  |0,i,h=>by cases h
  |k+1,i,h=>by
    rw[eu.l0]at h
    by_cases c:i≤l1.length
    · rw[if_pos (by omega)]at h
      obtain⟨t,ht,h⟩:=Option.bind_eq_some_iff.mp h;by_cases e:t=0
      · rw[if_pos e,uM i (by omega)]at h
        obtain⟨a,b⟩:=ok0 hl k (i+1) h;refine⟨fun y h1 h2=>?_,b⟩;by_cases G:y=i
        · exact⟨k,by rw[G,ht,e]⟩
        · exact a y (by omega) h2
      · rw[if_neg e]at h
        simp at h;exact absurd h.2 e
    · rw[if_neg (by omega)]at h
      exact⟨fun y h1 h2=>by omega,k,h⟩
theorem ok1(hl:l2.length≤1000){n:Int}:∀(k i:Nat),eu.l1 k (i:Int) s l1 l2=some (n,0)→(∀y:Nat,i≤y→y≤l2.length→∃D,iU.f D s l1 l2 y=some 0)∧∃D,eu.l2 D 1 s l1 l2=some (n,0)
  |0,i,h=>by cases h
  |k+1,i,h=>by
    rw[eu.l1]at h
    by_cases c:i≤l2.length
    · rw[if_pos (by omega)]at h
      obtain⟨t,ht,h⟩:=Option.bind_eq_some_iff.mp h;by_cases e:t=0
      · rw[if_pos e,uM i (by omega)]at h
        obtain⟨a,b⟩:=ok1 hl k (i+1) h;refine⟨fun y h1 h2=>?_,b⟩;by_cases G:y=i
        · exact⟨k,by rw[G,ht,e]⟩
        · exact a y (by omega) h2
      · rw[if_neg e]at h
        simp at h;exact absurd h.2 e
    · rw[if_neg (by omega)]at h
      exact⟨fun y h1 h2=>by omega,k,h⟩
theorem ok2(hl:l1.length≤1000){n:Int}:∀(k i:Nat),eu.l2 k (i:Int) s l1 l2=some (n,0)→(∀y:Nat,i≤y→y≤l1.length→∃D,ig.f D s l1 l2 y=some true)∧∃D,eu.l3 D 0 s l1 l2=some (n,0)
  |0,i,h=>by cases h
  |k+1,i,h=>by
    rw[eu.l2]at h
    by_cases c:i≤l1.length
    · rw[if_pos (by omega)]at h
      obtain⟨t,ht,h⟩:=Option.bind_eq_some_iff.mp h;by_cases e:t=true
      · rw[if_pos e,uM i (by omega)]at h
        obtain⟨a,b⟩:=ok2 hl k (i+1) h;refine⟨fun y h1 h2=>?_,b⟩;by_cases G:y=i
        · exact⟨k,by rw[G,ht,e]⟩
        · exact a y (by omega) h2
      · rw[if_neg e]at h
        simp at h
    · rw[if_neg (by omega)]at h
      exact⟨fun y h1 h2=>by omega,k,h⟩
theorem ok3(hl:l1.length≤1000){n:Int}:∀(k i:Nat),eu.l3 k (i:Int) s l1 l2=some (n,0)→∀y:Nat,i≤y→y≤l1.length→y=0∨iC l1 y=7∨iC l1 y=9→∃U,iG.f U s l1 l2 y=some true
  |0,i,h=>by cases h
  |k+1,i,h=>by
    rw[eu.l3]at h
    intro y h1 h2 G
    rw[if_pos (by omega)]at h
    by_cases L:i=0
    · rw[if_pos (by omega)]at h
      obtain⟨t,ht,h⟩:=Option.bind_eq_some_iff.mp h;by_cases e:t=true
      · rw[if_pos e,uM i (by omega)]at h
        by_cases D:y=i
        · exact⟨k,by rw[D,ht,e]⟩
        · exact ok3 hl k (i+1) h y (by omega) h2 G
      · rw[if_neg e]at h
        simp at h
    · rw[if_neg (by omega),vT (by omega)]at h
      simp only[Option.bind_some]at h;by_cases I:opn (iC l1 (i:Int))=true
      · rw[if_pos I]at h
        obtain⟨t,ht,h⟩:=Option.bind_eq_some_iff.mp h;by_cases e:t=true
        · rw[if_pos e,uM i (by omega)]at h
          by_cases D:y=i
          · exact⟨k,by rw[D,ht,e]⟩
          · exact ok3 hl k (i+1) h y (by omega) h2 G
        · rw[if_neg e]at h
          simp at h
      · rw[if_neg I,uM i (by omega)]at h
        by_cases D:y=i
        · subst D
          refine absurd ?_ I;unfold opn;exact decide_eq_true (G.elim (fun h=>absurd h L) id)
        · exact ok3 hl k (i+1) h y (by omega) h2 G
theorem H6{k:Nat}{i o kd:Int}{b:Bool}(L:b=(kd==1)∨b=(kd==8))(I:kd=1→b=true)(h:ig.j0 k i o kd b=some true):
    (kd=1∨kd=8→b=true→o=1)∧(kd=3∨kd=4∨kd=7→i=1∧o=1)∧(kd=5∨kd=6→(i=1∧2≤o)∨(2≤i∧o=1)):=by
  cases k with
  |zero=>cases h
  |succ k=>
    rw[ig.j0]at h;by_cases G:b=true
    · have hk:kd=1∨kd=8:=by
        rcases L with e|e
        · rw[G]at e;exact Or.inl (by simpa using e.symm)
        · rw[G]at e;exact Or.inr (by simpa using e.symm)
      rw[if_pos G]at h
      refine⟨fun _ _=>?_,fun h2=>by omega,fun h2=>by omega⟩
      split at h
      · simpa using h
      · cases h
    · rw[if_neg G]at h
      refine⟨fun _ h2=>absurd h2 G,fun h2=>?_,fun h2=>?_⟩
      · rw[if_neg (by omega),if_neg (by omega),if_neg (by omega),if_neg (by omega)]at h
        split at h
        · exact⟨by assumption,by simpa using h⟩
        · cases h
      · rw[if_neg (by omega),if_neg (by omega)]at h
        have D:(if i=1 then(if o≥2 then(some true)else(if i≥2 then(some (o==1))else(some false)))else(if i≥2 then(some (o==1))else(some false)))=some true:=by
          rcases h2 with h2|h2
          · rw[if_pos h2]at h;exact h
          · rw[if_neg (by omega),if_pos h2]at h;exact h
        split at D
        · split at D
          · exact Or.inl ⟨by assumption,by assumption⟩
          · split at D
            · omega
            · cases D
        · split at D
          · exact Or.inr ⟨by assumption,by simpa using D⟩
          · cases D
theorem Af(hl:l1.length≤1000)(fs:List Int)(D:fs.length≤1000):∀(k i:Nat) (a b:Int),iG.l0 k a b fs (fs.length:Int) (i:Int) s l1 l2=some true→(a=1∨∃n∈fs,iC l1 n=1)∧(b=1∨∃n∈fs,iC l1 n=2)
  |0,i,a,b,h=>by cases h
  |k+1,i,a,b,h=>by
    rw[iG.l0]at h
    by_cases c:i<fs.length
    · have U:rd fs (i:Int)=fs[i]:=by unfold rd;rw[show((i:Int)).toNat=i by omega,List.getD_eq_getElem?_getD,List.getElem?_eq_getElem c];rfl
      rw[if_pos (by omega),if_pos (by omega),if_pos (by omega),U,rV (by omega),uM i (by omega)]at h;simp only[Option.bind_some]at h;have L:=List.getElem_mem c;by_cases I:iC l1 fs[i]=1
      · rw[if_pos I,if_neg (by omega)]at h
        exact⟨Or.inr ⟨_,L,I⟩,(Af hl fs D k (i+1) _ _ h).2⟩
      · rw[if_neg I]at h
        by_cases G:iC l1 fs[i]=2
        · rw[if_pos G]at h
          exact⟨(Af hl fs D k (i+1) _ _ h).1,Or.inr ⟨_,L,G⟩⟩
        · rw[if_neg G]at h
          exact Af hl fs D k (i+1) _ _ h
    · rw[if_neg (by omega)]at h
      split at h
      · exact⟨Or.inl (by assumption),Or.inl (by simpa using h)⟩
      · cases h
theorem qZ{α:Type}{p:Prop}[Decidable p]{x y z:α}(h:(if p then x else y)=z)(D:x≠z):¬p∧y=z:=by
  by_cases c:p
  · rw[if_pos c]at h;exact absurd h D
  · rw[if_neg c]at h;exact⟨c,h⟩
theorem LW{I L:Int}{x:S40}{a b:Int}{o:Nat}(h:fE I L x a b o=0):a≠0∧b≠0∧b≠1∧b≠8∧b≠9∧(x.f2≠0→a=5∧2≤o):=by
  have D:(17:Int)≠0:=by decide
  unfold fE at h;generalize mE x=m at h;obtain⟨U,h⟩:=qZ h D;obtain⟨Y,h⟩:=qZ h D;by_cases e:I=L
  · rw[if_pos e]at h
    obtain⟨_,h⟩:=qZ h D;obtain⟨_,h⟩:=qZ h D;obtain⟨b1,h⟩:=qZ h D;obtain⟨Z,h⟩:=qZ h D;obtain⟨b9,h⟩:=qZ h D;obtain⟨_,h⟩:=qZ h D;obtain⟨_,h⟩:=qZ h D;refine⟨U,Y,b1,Z,b9,fun X=>?_⟩;rw[if_neg X]at h;by_cases G:a=5
    · rw[if_pos G]at h
      obtain⟨_,_⟩:=qZ h D;exact⟨G,by omega⟩
    · rw[if_neg G]at h
      exact absurd h D
  · rw[if_neg e]at h
    exact absurd h D
set_option maxHeartbeats 2000000 in
theorem FH{k:Nat}{n:Int}(h:eu.f k s l1 l2=some (n,0)):wG l1 l2:=by
  have Y:l1.length≤60∧l2.length≤90∧∃X,eu.l0 X ((1:Nat):Int) s l1 l2=some (n,0):=by
    unfold eu.f at h
    have bad:∀k,eu.j0 k true s l1 l2≠some (n,0):=fun k e=>by
      cases k with
      |zero=>cases e
      |succ k=>rw[eu.j0,if_pos rfl]at e;simp at e
    split at h
    · exact absurd h (bad k)
    · split at h
      · exact absurd h (bad k)
      · cases k with
        |zero=>cases h
        |succ k=>
          rw[eu.j0]at h
          split at h
          · simp at h
          · rename_i h1 h2 h3
            exact⟨by omega,by simp at h3;omega,k,h⟩
  obtain⟨_,_,k0,e0⟩:=Y;obtain⟨a0,k1,e1⟩:=ok0 (by omega) k0 1 e0;obtain⟨a1,k2,e2⟩:=ok1 (by omega) k1 1 e1;obtain⟨a2,k3,e3⟩:=ok2 (by omega) k2 1 e2;have a3:=ok3 (by omega) k3 0 e3
  have U:∀m,inL l1 m→1≤iC l1 m∧iC l1 m≤9:=fun m D=>by
    obtain⟨y,rfl⟩:∃y:Nat,m=y:=⟨m.toNat,by have:=D.1;omega⟩
    obtain⟨X,hk⟩:=a0 y (by have:=D.1;omega) (by have:=D.2;omega)
    unfold iZ.f at hk
    split at hk
    · have hk:=Option.some.inj hk
      unfold r9 at hk;rw[show iC l1 (y:Int)=(nd l1 y).f0 from if_pos D];by_cases c:(nd l1 (y:Int)).f0<1∨9<(nd l1 (y:Int)).f0
      · rw[if_pos c]at hk;cases hk
      · omega
    · cases hk
  have I:∀m,inL l1 m→(iC l1 m=1∨iC l1 m=8→(outs l2 m).length=1)∧(iC l1 m=3∨iC l1 m=4∨iC l1 m=7→(ins l2 m).length=1∧(outs l2 m).length=1)∧
      (iC l1 m=5∨iC l1 m=6→((ins l2 m).length=1∧2≤(outs l2 m).length)∨(2≤(ins l2 m).length∧(outs l2 m).length=1)):=fun m D=>by
    obtain⟨y,rfl⟩:∃y:Nat,m=y:=⟨m.toNat,by have:=D.1;omega⟩
    obtain⟨X,hk⟩:=a2 y (by have:=D.1;omega) (by have:=D.2;omega)
    unfold ig.f at hk
    obtain⟨is,hi,hk⟩:=Option.bind_eq_some_iff.mp hk
    obtain⟨os,Z,hk⟩:=Option.bind_eq_some_iff.mp hk
    rw[rV (by omega)]at hk
    simp only[Option.bind_some]at hk
    rw[JA (by omega) hi,DT (by omega) Z]at hk
    by_cases c:iC l1 (y:Int)=1
    · rw[if_pos c]at hk
      have d:=H6 (Or.inl rfl) (fun h=>by rw[h];rfl) hk;refine⟨fun _=>?_,fun h=>by omega,fun h=>by omega⟩;have:=d.1 (Or.inl c) (by rw[c];rfl);omega
    · rw[if_neg c]at hk
      have d:=H6 (Or.inr rfl) (fun h=>absurd h c) hk;refine⟨fun h=>?_,fun h=>?_,fun h=>?_⟩
      · have c8:iC l1 (y:Int)=8:=h.resolve_left c
        have:=d.1 h (by rw[c8];rfl);omega
      · have:=d.2.1 h
        omega
      · have:=d.2.2 h
        omega
  have G:∀f,inF l2 f→inL l1 (src l2 f)∧inL l1 (dst l2 f)∧iC l1 (dst l2 f)≠1∧iC l1 (dst l2 f)≠8∧iC l1 (dst l2 f)≠9∧((flw l2 f).f2≠0→iC l1 (src l2 f)=5∧2≤(outs l2 (src l2 f)).length):=fun f L=>by
    obtain⟨y,rfl⟩:∃y:Nat,f=y:=⟨f.toNat,by have:=L.1;omega⟩
    obtain⟨X,hk⟩:=a1 y (by have:=L.1;omega) (by have:=L.2;omega)
    have hw:wrap64 ((y:Int)-1)=(y:Int)-1:=by have h1:=L.1;have h2:=L.2;unfold wrap64;omega
    unfold iU.f at hk
    rw[hw]at hk
    split at hk
    · rw[rV (by omega),rV (by omega)]at hk
      simp only[Option.bind_some]at hk;obtain⟨os,Z,hk⟩:=Option.bind_eq_some_iff.mp hk;rw[DT (by omega) Z]at hk;have hk:=Option.some.inj hk;change fE _ _ (flw l2 (y:Int)) (iC l1 (src l2 (y:Int))) (iC l1 (dst l2 (y:Int))) (outs l2 (src l2 (y:Int))).length=0 at hk;obtain⟨q1,q2,q3,q4,q5,q6⟩:=LW hk;exact⟨vQ q1,vQ q2,q3,q4,q5,q6⟩
    · cases hk
  refine⟨by omega,by omega,fun f L=>?_,fun f L=>(G f L).2.2.2.2.2,fun m D h=>?_,fun m D h=>((I m D).2.1 h).1,fun m D h=>(I m D).2.2 h,U,fun t ht=>?_⟩
  · obtain⟨b1,b2,b3,b4,b5,_⟩:=G f L
    exact⟨b1,b2,b3,b4,b5⟩
  · by_cases c:iC l1 m=1∨iC l1 m=8
    · exact(I m D).1 c
    · exact((I m D).2.1 (by omega)).2
  · have hy:∃y:Nat,t=y∧y≤l1.length∧(y=0∨iC l1 y=7∨iC l1 y=9):=by
      rcases ht with rfl|⟨hi,Z⟩
      · exact⟨0,rfl,Nat.zero_le _,Or.inl rfl⟩
      · have e:(t.toNat:Int)=t:=by have:=hi.1;omega
        exact⟨t.toNat,e.symm,by have:=hi.2;omega,Or.inr (by rw[e];exact Z)⟩
    obtain⟨y,rfl,aa,ae⟩:=hy
    obtain⟨X,hk⟩:=a3 y (Nat.zero_le _) aa ae
    unfold iG.f at hk
    obtain⟨_,ab,hk⟩:=Option.bind_eq_some_iff.mp hk
    rw[En (by omega) ab]at hk
    have af:=FB (fun x:S38=>x.f1==(y:Int)) l1 0
    obtain⟨p,q⟩:=Af (by omega) (inside l1 y) (by unfold inside;omega) X 0 0 0 hk
    exact⟨p.resolve_left (by decide),q.resolve_left (by decide)⟩
end
open Span Cyc
def vD(l1:List S38)(l2:List S40)(f:Int):Int:=fE (kJ l1 (flw l2 f).f0) (kJ l1 (flw l2 f).f1) (flw l2 f) (iC l1 (flw l2 f).f0) (iC l1 (flw l2 f).f1) (outs l2 (flw l2 f).f0).length
section
variable {l1:List S38} {l2:List S40} {s:ByteArray}
theorem Ch(h1:l1.length≤1000)(I:∀x∈l1,x.f4.size≤1000){n:Int}(G:inL l1 n)(k:Nat):iZ.f k s l1 l2 n=some (r9 l1 n (nd l1 n)):=by
  have L:nd l1 n∈l1:=by
    obtain⟨_,b⟩:=G;(have D:(n-1).toNat<l1.length:=by omega);unfold nd;rw[show wrap64 (n-1)=(((n-1).toNat:Nat):Int) by unfold wrap64;omega,Et D];exact List.getElem_mem D
  unfold iZ.f;rw[if_pos];simp only[Bool.and_eq_true,decide_eq_true_eq];exact⟨⟨by omega,G⟩,I _ L⟩
theorem EY(h1:l1.length≤1000)(h2:l2.length≤1000){f:Int}(D:inF l2 f)(k:Nat)(hk:1001≤k):iU.f k s l1 l2 f=some (vD l1 l2 f):=by
  obtain⟨_,b⟩:=D;have I:wrap64 (f-1)=f-1:=by unfold wrap64;omega
  unfold iU.f;rw[I,if_pos ⟨by omega,by omega⟩,rV (by omega),rV (by omega)];simp only[Option.bind_some];have G:∀n,iD.f k s l1 l2 n=some (outs l2 n):=fun n=>yC (by omega) n l2.length k 0 [] (by omega) (by omega) (Nat.zero_le _);rw[G];rfl
theorem Jd{k:Nat}{n:Int}(h:eu.f k s l1 l2=some (n,0))(Y:∀x∈l1,x.f4.size≤1000):0<l1.length∧l1.length≤60∧l2.length≤90∧(∀m,inL l1 m→r9 l1 m (nd l1 m)=0)∧∀f,inF l2 f→vD l1 l2 f=0:=by
  have D:0<l1.length∧l1.length≤60∧l2.length≤90∧∃L,eu.l0 L ((1:Nat):Int) s l1 l2=some (n,0):=by
    unfold eu.f at h
    have bad:∀k,eu.j0 k true s l1 l2≠some (n,0):=fun k e=>by
      cases k with
      |zero=>cases e
      |succ k=>rw[eu.j0,if_pos rfl]at e;simp at e
    split at h
    · exact absurd h (bad k)
    · split at h
      · exact absurd h (bad k)
      · cases k with
        |zero=>cases h
        |succ k=>
          rw[eu.j0]at h
          split at h
          · simp at h
          · rename_i h1 h2 Z
            exact⟨by omega,by omega,by simp at Z;omega,k,h⟩
  obtain⟨g0,g1,g2,U,e0⟩:=D;obtain⟨X,k1,e1⟩:=ok0 (by omega) U 1 e0;obtain⟨a1,_⟩:=ok1 (by omega) k1 1 e1;refine⟨g0,g1,g2,fun m G=>?_,fun f I=>?_⟩
  · obtain⟨y,rfl⟩:∃y:Nat,m=y:=⟨m.toNat,by have:=G.1;omega⟩
    obtain⟨L,hk⟩:=X y (by have:=G.1;omega) (by have:=G.2;omega);rw[Ch (by omega) Y G]at hk;exact Option.some.inj hk
  · obtain⟨y,rfl⟩:∃y:Nat,f=y:=⟨f.toNat,by have:=I.1;omega⟩
    obtain⟨L,hk⟩:=a1 y (by have:=I.1;omega) (by have:=I.2;omega);exact(det (g:=fun k=>iU.f k s l1 l2 (y:Int)) (fun k=>iU.mono s l1 l2 _ k) hk (EY (by omega) (by omega) I 1001 (Nat.le_refl _))).symm
theorem Aw(h1:l1.length≤1000)(D:∀x∈l1,x.f4.size≤1000)(m:Nat)(I:m≤l1.length)(G:r9 l1 m (nd l1 m)≠0):∀(d i k:Nat),1≤i→i+d=m→d+1≤k→(∀y:Nat,i≤y→y<m→r9 l1 y (nd l1 y)=0)→
    eu.l0 k (i:Int) s l1 l2=some ((m:Int),r9 l1 m (nd l1 m))
  |0,i,k,hi,hd,hk,hy=>by
    obtain⟨k,rfl⟩:∃q,k=q+1:=⟨k-1,by omega⟩
    obtain rfl:i=m:=by omega
    rw[eu.l0,if_pos (by omega),Ch h1 D ⟨by omega,by omega⟩]
    simp only[Option.bind_some]
    rw[if_neg G]
  |d+1,i,k,hi,hd,hk,hy=>by
    obtain⟨k,rfl⟩:∃q,k=q+1:=⟨k-1,by omega⟩
    rw[eu.l0,if_pos (by omega),Ch h1 D ⟨by omega,by omega⟩]
    simp only[Option.bind_some]
    rw[if_pos (hy i (Nat.le_refl _) (by omega)),uM i (by omega)]
    exact Aw h1 D m I G d (i+1) k (by omega) (by omega) (by omega) (fun y a b=>hy y (by omega) b)
theorem Aa(h1:l1.length≤1000)(D:∀x∈l1,x.f4.size≤1000):∀(d i k:Nat),1≤i→i+d=l1.length+1→d+1≤k→(∀y:Nat,i≤y→y≤l1.length→r9 l1 y (nd l1 y)=0)→
    eu.l0 k (i:Int) s l1 l2=eu.l1 (k-d-1) 1 s l1 l2
  |0,i,k,hi,hd,hk,hy=>by
    obtain⟨k,rfl⟩:∃q,k=q+1:=⟨k-1,by omega⟩
    rw[eu.l0,if_neg (by omega)]
    rfl
  |d+1,i,k,hi,hd,hk,hy=>by
    obtain⟨k,rfl⟩:∃q,k=q+1:=⟨k-1,by omega⟩
    rw[eu.l0,if_pos (by omega),Ch h1 D ⟨by omega,by omega⟩]
    simp only[Option.bind_some]
    rw[if_pos (hy i (Nat.le_refl _) (by omega)),uM i (by omega),Aa h1 D d (i+1) k (by omega) (by omega) (by omega) (fun y a b=>hy y (by omega) b)]
    congr 1
    omega
theorem Aq(h1:l1.length≤1000)(h2:l2.length≤1000)(m:Nat)(G:m≤l2.length)(D:vD l1 l2 m≠0):∀(d i k:Nat),1≤i→i+d=m→d+1002≤k→(∀y:Nat,i≤y→y<m→vD l1 l2 y=0)→
    eu.l1 k (i:Int) s l1 l2=some ((m:Int),vD l1 l2 m)
  |0,i,k,hi,hd,hk,hy=>by
    obtain⟨k,rfl⟩:∃q,k=q+1:=⟨k-1,by omega⟩
    obtain rfl:i=m:=by omega
    rw[eu.l1,if_pos (by omega),EY h1 h2 ⟨by omega,by omega⟩ k (by omega)]
    simp only[Option.bind_some]
    rw[if_neg D]
  |d+1,i,k,hi,hd,hk,hy=>by
    obtain⟨k,rfl⟩:∃q,k=q+1:=⟨k-1,by omega⟩
    rw[eu.l1,if_pos (by omega),EY h1 h2 ⟨by omega,by omega⟩ k (by omega)]
    simp only[Option.bind_some]
    rw[if_pos (hy i (Nat.le_refl _) (by omega)),uM i (by omega)]
    exact Aq h1 h2 m G D d (i+1) k (by omega) (by omega) (by omega) (fun y a b=>hy y (by omega) b)
theorem zT(I:0<l1.length)(G:l1.length≤60)(D:l2.length≤90)(k:Nat):eu.f (k+1) s l1 l2=eu.l0 k 1 s l1 l2:=by
  unfold eu.f;rw[if_neg (by omega),if_neg (by omega),eu.j0,if_neg (by simp;omega)]
theorem EA(X:l1.length≤60)(U:l2.length≤90)(I:∀x∈l1,x.f4.size≤1000)(m:Nat)(m0:0<m)(D:m≤l1.length)(L:r9 l1 m (nd l1 m)≠0)(G:∀y:Nat,1≤y→y<m→r9 l1 y (nd l1 y)=0)(k:Nat)(hk:2000≤k):
    eu.f k s l1 l2=some ((m:Int),r9 l1 m (nd l1 m)):=by
  obtain⟨k,rfl⟩:∃q,k=q+1:=⟨k-1,by omega⟩
  rw[zT (by omega) X U];exact Aw (by omega) I m D L (m-1) 1 k (Nat.le_refl _) (by omega) (by omega) G
theorem ER(X:0<l1.length)(Z:l1.length≤60)(Y:l2.length≤90)(I:∀x∈l1,x.f4.size≤1000)(L:∀y:Nat,1≤y→y≤l1.length→r9 l1 y (nd l1 y)=0)(m:Nat)(m0:0<m)(D:m≤l2.length)(U:vD l1 l2 m≠0)(G:∀y:Nat,1≤y→y<m→vD l1 l2 y=0)(k:Nat)(hk:2000≤k):
    eu.f k s l1 l2=some ((m:Int),vD l1 l2 m):=by
  obtain⟨k,rfl⟩:∃q,k=q+1:=⟨k-1,by omega⟩
  rw[zT X Z Y];have e:=Aa (s:=s) (l2:=l2) (by omega) I l1.length 1 k (Nat.le_refl _) (by omega) (by omega) L;rw[show((1:Nat):Int)=1 from rfl]at e;rw[e];exact Aq (by omega) (by omega) m D U (m-1) 1 _ (Nat.le_refl _) (by omega) (by omega) G
end
theorem Ez{l:List S38}(hs:l.length≤1000){i:Nat}(hi:i<l.length)(x:S38)(y:Int)(D:inL l y):nd (l.set i x) y=if y=(i:Int)+1 then x else nd l y:=by
  obtain⟨q,rfl⟩:∃q:Nat,y=(q:Int)+1:=⟨(y-1).toNat,by have:=D.1;omega⟩
  have G:q<l.length:=by have:=D.2;omega
  rw[Bd _ (by rw[List.length_set];omega) (by rw[List.length_set];exact G),Bd l (by omega) G,List.getElem_set];by_cases e:i=q
  · subst e;rw[if_pos rfl,if_pos rfl]
  · rw[if_neg e,if_neg (by omega)]
theorem Ji{l:List S38}{i:Nat}{x:S38}{y:Int}:inL (l.set i x) y↔inL l y:=by unfold inL;rw[List.length_set]
theorem IC{l:List S38}(hs:l.length≤1000){i:Nat}(hi:i<l.length)(x:S38)(y:Int)(D:y≠(i:Int)+1):iC (l.set i x) y=iC l y:=by
  unfold iC;by_cases h:inL l y
  · rw[if_pos h,if_pos (Ji.mpr h),Ez hs hi x y h,if_neg D]
  · rw[if_neg h,if_neg (fun c=>h (Ji.mp c))]
theorem Bn{l l':List S38}{y:Int}{z:S38}(hk:∀m,m<y→iC l' m=iC l m)(c:¬(z.f1≠0∧(y≤z.f1∨opn (iC l z.f1)=false))):¬(z.f1≠0∧(y≤z.f1∨opn (iC l' z.f1)=false)):=fun h=>by
  refine c ⟨h.1,?_⟩
  by_cases D:y≤z.f1
  · exact Or.inl D
  · rw[←hk _ (by omega)];exact Or.inr (h.2.resolve_left D)
theorem GJ{l l':List S38}{y:Int}{z:S38}(hk:∀m,m<y→iC l' m=iC l m)(G:∀m,m<y→inL l m→nd l' m=nd l m)(h:r9 l y z=0):r9 l' y z=0:=by
  have D:(16:Int)≠0:=by decide
  unfold r9 at h⊢;obtain⟨c1,h⟩:=qZ h D;obtain⟨c2,h⟩:=qZ h D;obtain⟨c3,h⟩:=qZ h D;rw[if_neg c1,if_neg (Bn hk c2),if_neg c3];by_cases c4:z.f0=8∨z.f0=9
  · rw[if_pos c4]at h⊢
    by_cases c5:z.f3<y∧(iC l z.f3=3∨iC l z.f3=7)∧(nd l z.f3).f1=z.f1
    · rw[if_pos c5]at h
      rw[if_pos ⟨c5.1,by rw[hk _ c5.1];exact c5.2.1,by rw[G _ c5.1 (vQ (by omega))];exact c5.2.2⟩];exact h
    · rw[if_neg c5]at h;exact absurd h D
  · rw[if_neg c4]at h⊢;exact h
theorem AU {l l':List S38} {y:Int} {z D:S38} (hk:∀m,m<y→iC l' m=iC l m) (h:r9 l y z=0)
    (I:9<D.f0∨(D.f0=z.f0∧D.f1≠0∧y≤D.f1)∨(D.f0=z.f0∧D.f1=z.f1∧8≤D.f2)):r9 l' y D=16:=by
  have G:(16:Int)≠0:=by decide
  unfold r9 at h⊢;obtain⟨c1,h⟩:=qZ h G;obtain⟨c2,h⟩:=qZ h G;rcases I with I|⟨e0,e1,e2⟩|⟨e0,e1,e2⟩
  · rw[if_pos (Or.inr I)]
  · rw[if_neg (by rw[e0];exact c1),if_pos ⟨e1,Or.inl e2⟩]
  · rw[if_neg (by rw[e0];exact c1),if_neg (by rw[e1];exact Bn hk c2),if_pos (Or.inr (Or.inr e2))]
theorem F7{l l':List S38}{y:Int}{z:S38}{t:ByteArray}(hk:∀m,m<y→iC l' m=iC l m)(I:∀m,m<y→inL l m→nd l' m=nd l m)(h:r9 l y z=0)(ht:xg {z with f4:=t}=false)(G:t.toList≠[]):r9 l' y {z with f4:=t}=6:=by
  have D:(16:Int)≠0:=by decide
  unfold r9 at h⊢;obtain⟨c1,h⟩:=qZ h D;obtain⟨c2,h⟩:=qZ h D;obtain⟨c3,h⟩:=qZ h D;rw[if_neg c1,if_neg (Bn hk c2),if_neg c3];have tm:tmE {z with f4:=t}=6:=by unfold tmE;rw[ht];rfl
  by_cases c4:z.f0=8∨z.f0=9
  · rw[if_pos c4]at h⊢
    by_cases c5:z.f3<y∧(iC l z.f3=3∨iC l z.f3=7)∧(nd l z.f3).f1=z.f1
    · rw[if_pos ⟨c5.1,by rw[hk _ c5.1];exact c5.2.1,by rw[I _ c5.1 (vQ (by omega))];exact c5.2.2⟩]
      exact tm
    · rw[if_neg c5]at h;exact absurd h D
  · rw[if_neg c4]at h⊢
    obtain⟨c6,h⟩:=qZ h D;rw[if_neg c6];by_cases c7:z.f0=4
    · rw[if_pos c7];exact tm
    · rw[if_neg c7,if_neg G]
theorem Ie{α:Type}(p:α→Bool)(x:α):∀(l:List α) (j i:Nat),(∀h:i<l.length,p x=p l[i])→ix p j (l.set i x)=ix p j l
  |[],j,i,h=>by simp
  |a::l,j,0,h=>by
    have:=h (Nat.succ_pos _)
    simp only[List.getElem_cons_zero]at this
    simp only[List.set_cons_zero]
    unfold ix
    rw[this]
  |a::l,j,i+1,h=>by
    simp only[List.set_cons_succ]
    unfold ix
    rw[Ie p x l (j+1) i (fun hi=>by have:=h (by simpa using hi);simpa using this)]
theorem Fj{l2:List S40}{i:Nat}(hi:i<l2.length)(x:S40)(f:Int)(D:inF l2 f):flw (l2.set i x) f=if f=(i:Int)+1 then x else flw l2 f:=by
  obtain⟨q,rfl⟩:∃q:Nat,f=(q:Int)+1:=⟨(f-1).toNat,by have:=D.1;omega⟩
  have G:q<l2.length:=by have:=D.2;omega
  rw[wT _ (by rw[List.length_set];exact G),wT l2 G,List.getElem_set];by_cases e:i=q
  · subst e;rw[if_pos rfl,if_pos rfl]
  · rw[if_neg e,if_neg (by omega)]
theorem DK{l2:List S40}{i:Nat}(hi:i<l2.length){x:S40}(D:x.f0=l2[i].f0)(n:Int):outs (l2.set i x) n=outs l2 n:=
  Ie _ x l2 0 i (fun _=>by rw[D])
theorem IZ{L U G:Int}{x x':S40}{a b b':Int}{o:Nat}(h:fE L U x a b o=0)(I:b'=0∨(b'=b∧G=U∧3<x'.f2)):fE L G x' a b' o=17:=by
  have D:(17:Int)≠0:=by decide
  unfold fE at h⊢;generalize mE x=m at h;generalize mE x'=m';obtain⟨a0,h⟩:=qZ h D;rw[if_neg a0];rcases I with I|⟨rfl,rfl,I⟩
  · rw[if_pos I]
  · obtain⟨X,h⟩:=qZ h D
    rw[if_neg X];by_cases e:L=G
    · rw[if_pos e]at h⊢
      obtain⟨d1,h⟩:=qZ h D;obtain⟨d2,h⟩:=qZ h D;obtain⟨Z,h⟩:=qZ h D;obtain⟨Y,h⟩:=qZ h D;obtain⟨d5,h⟩:=qZ h D;rw[if_neg d1,if_neg d2,if_neg Z,if_neg Y,if_neg d5,if_neg (by omega),if_pos I]
    · rw[if_neg e]
theorem Fe{I G:Int}{x x':S40}{a b:Int}{o:Nat}(h:fE I G x a b o=0)(e2:x'.f2=x.f2):fE I G x' a b o=mE x'∧mE x=0:=by
  have D:(17:Int)≠0:=by decide
  unfold fE at h⊢;generalize mE x=m at h;generalize mE x'=m';obtain⟨U,h⟩:=qZ h D;obtain⟨Y,h⟩:=qZ h D;rw[if_neg U,if_neg Y];by_cases e:I=G
  · rw[if_pos e]at h⊢
    obtain⟨d1,h⟩:=qZ h D;obtain⟨d2,h⟩:=qZ h D;obtain⟨d3,h⟩:=qZ h D;obtain⟨Z,h⟩:=qZ h D;obtain⟨X,h⟩:=qZ h D;obtain⟨d6,h⟩:=qZ h D;obtain⟨d7,h⟩:=qZ h D;rw[if_neg d1,if_neg d2,if_neg d3,if_neg Z,if_neg X,e2,if_neg d6,if_neg d7];by_cases f0:x.f2=0
    · rw[if_pos f0]at h⊢;exact⟨rfl,h⟩
    · rw[if_neg f0]at h⊢
      by_cases L:a=5
      · rw[if_pos L]at h⊢
        obtain⟨d8,h⟩:=qZ h D;rw[if_neg d8];exact⟨rfl,h⟩
      · rw[if_neg L]at h;exact absurd h D
  · rw[if_neg e]at h;exact absurd h D
theorem Lm{x:S40}(h:9<x.f3):mE x=17:=by
  unfold mE;by_cases e:x.f2=3
  · rw[if_pos e,if_neg (by omega),if_pos h]
  · rw[if_neg e,if_neg (by omega)]
theorem Hl{x:S40}{g:ByteArray}(h:mE x=0)(U:guardE g≠0)(X:g.toList≠[]):mE {x with f4:=g}=18:=by
  have D:(17:Int)≠0:=by decide
  have G:gE {x with f4:=g}=18:=by
    unfold gE;by_cases L:x.f2=2
    · rw[if_pos L,if_neg U]
    · by_cases I:x.f2=3
      · rw[if_neg L,if_pos I,if_neg U]
      · rw[if_neg L,if_neg I,if_neg X]
  unfold mE at h⊢;by_cases e:x.f2=3
  · rw[if_pos e]at h⊢
    obtain⟨d1,h⟩:=qZ h D;obtain⟨d2,h⟩:=qZ h D;rw[if_neg d1,if_neg d2];exact G
  · rw[if_neg e]at h⊢
    by_cases I:x.f3=0
    · rw[if_pos I];exact G
    · rw[if_neg I]at h;exact absurd h D
section
variable {l1:List S38} {l2:List S40} {s:ByteArray}
theorem size_set{l:List S38}{i:Nat}{x:S38}(G:∀z∈l,z.f4.size≤1000)(D:x.f4.size≤1000):∀z∈l.set i x,z.f4.size≤1000:=fun z I=>(List.mem_or_eq_of_mem_set I).elim (G z) (fun e=>e▸D)
theorem yg (g1:l1.length≤60) (g2:l2.length≤90) (ha:∀x∈l1,x.f4.size≤1000) (I:∀m,inL l1 m→r9 l1 m (nd l1 m)=0) {i:Nat} (hi:i<l1.length) {x:S38} (hx:x.f4.size≤1000) {e:Int} (he:e≠0)
    (hE:(∀m,m<(i:Int)+1→iC (l1.set i x) m=iC l1 m)→(∀m,m<(i:Int)+1→inL l1 m→nd (l1.set i x) m=nd l1 m)→r9 l1 ((i:Int)+1) l1[i]=0→r9 (l1.set i x) ((i:Int)+1) x=e) (k:Nat) (hk:2000≤k):
    eu.f k s (l1.set i x) l2=some ((i:Int)+1,e):=by
  have kk:∀m,m<(i:Int)+1→iC (l1.set i x) m=iC l1 m:=fun m U=>IC (by omega) hi x m (by omega);have L:∀m,m<(i:Int)+1→inL l1 m→nd (l1.set i x) m=nd l1 m:=fun m U h=>by rw[Ez (by omega) hi x m h,if_neg (by omega)]
  have G:inL l1 ((i:Int)+1):=⟨by omega,by omega⟩
  have Z:=I _ G;rw[Bd l1 (by omega) hi]at Z;have hE:=hE kk L Z;have D:nd (l1.set i x) ((i:Int)+1)=x:=by rw[Ez (by omega) hi x _ G,if_pos rfl]
  have X:=EA (s:=s) (l1:=l1.set i x) (l2:=l2) (by rw[List.length_set];exact g1) g2 (size_set ha hx) (i+1) (Nat.succ_pos _) (by rw[List.length_set];omega) (by rw[show((i+1:Nat):Int)=(i:Int)+1 from rfl,D,hE];exact he) (fun y h1 h2=>by
    have Y:inL l1 (y:Int):=⟨by omega,by omega⟩
    rw[L _ (by omega) Y]
    exact GJ (fun m U=>kk m (by omega)) (fun m U h=>L m (by omega) h) (I _ Y)) k hk
  rw[show((i+1:Nat):Int)=(i:Int)+1 from rfl,D,hE]at X;exact X
theorem yE (g0:0<l1.length) (g1:l1.length≤60) (g2:l2.length≤90) (ha:∀x∈l1,x.f4.size≤1000) (X:∀m,inL l1 m→r9 l1 m (nd l1 m)=0) (G:∀f,inF l2 f→vD l1 l2 f=0) {j:Nat} (U:j<l2.length) {x:S40} (hx:x.f0=l2[j].f0) {e:Int} (he:e≠0)
    (hE:vD l1 l2 ((j:Int)+1)=0→fE (kJ l1 x.f0) (kJ l1 x.f1) x (iC l1 x.f0) (iC l1 x.f1) (outs l2 x.f0).length=e) (k:Nat) (hk:2000≤k):
    eu.f k s l1 (l2.set j x)=some ((j:Int)+1,e):=by
  have I:inF l2 ((j:Int)+1):=⟨by omega,by omega⟩
  have hE:=hE (G _ I);have D:vD l1 (l2.set j x) ((j:Int)+1)=e:=by
    unfold vD;rw[Fj U x _ I,if_pos rfl,DK U hx];exact hE
  have Y:=ER (s:=s) (l1:=l1) (l2:=l2.set j x) g0 g1 (by rw[List.length_set];exact g2) ha (fun y h1 h2=>X _ ⟨by omega,by omega⟩) (j+1) (Nat.succ_pos _) (by rw[List.length_set];omega) (by rw[show((j+1:Nat):Int)=(j:Int)+1 from rfl,D];exact he) (fun y h1 h2=>by
    have Z:inF l2 (y:Int):=⟨by omega,by omega⟩
    have L:flw (l2.set j x) (y:Int)=flw l2 (y:Int):=by rw[Fj U x _ Z,if_neg (by omega)]
    have:=G _ Z
    unfold vD at this⊢
    rw[L,DK U hx]
    exact this) k hk
  rw[show((j+1:Nat):Int)=(j:Int)+1 from rfl,D]at Y;exact Y
theorem Lr{z:S38}{t:ByteArray}(h:∃r,t.data.toList=120::r):xg {z with f4:=t}=false:=by
  obtain⟨r,G⟩:=h;unfold xg;rw[G,show kH (120::r)=(0,2)from rfl,show wZ (120::r)=(0,0,2)from rfl];rw[if_neg (by decide)];by_cases D:({z with f4:=t}:S38).f0=9
  · rw[if_pos D];rfl
  · rw[if_neg D]
theorem Em(l:List UInt8):∀(ts:List (List UInt8)) (k:Nat) (st:Nat×Nat),(∀t∈ts,st.2<t.length→Lib.hasPrefix l t=false)→Lx.uT l ts k st=st
  |[],_,st,_=>rfl
  |t::ts,k,st,h=>by
    unfold Lx.uT
    rw[if_neg (fun c=>by rw[h t (List.mem_cons_self ..) c.1]at c;cases c.2)]
    exact Em l ts (k+1) st (fun t ht=>h t (List.mem_cons_of_mem _ ht))
theorem Jp{t:ByteArray}(h:∃r,t.data.toList=63::r):guardE t≠0:=by
  obtain⟨r,Y⟩:=h
  have hl:Lx.su (63::r)=(0,0):=Em _ _ _ _ (fun x I U=>by
    simp only[Lx.TX,List.mem_cons,List.not_mem_nil,or_false]at I
    rcases I with rfl|rfl|rfl|rfl|rfl|rfl|rfl|rfl|rfl|rfl|rfl|rfl|rfl|rfl|rfl|rfl|rfl|rfl|rfl<;>first|(simp at U;done)|rfl)
  have G:∃e,e≠0∧Go.Proofs.Lx.vO.f t=some ([],e):=by
    unfold Go.Proofs.Lx.vO.f
    split
    · exact⟨15,by decide,rfl⟩
    · refine⟨2,by decide,?_⟩
      rw[Y,Lx.wE];(have L:Lx.trimB (63::r)=63::r:=by unfold Lx.trimB;rw[List.dropWhile_cons];rfl);rw[L];show(if isD 63=true then _ else if Lx.isA 63=true then _ else Lx.wC _ (63::r) [])=_;rw[if_neg (by decide),if_neg (by decide)];unfold Lx.wC;rw[hl,if_pos rfl]
  obtain⟨e,X,I⟩:=G;have D:=Aj t;unfold tO.f at D;rw[I]at D;simp only[Option.bind_some]at D;rw[if_neg X]at D;rw[←Option.some.inj D];exact X
end
open M
section
variable {l1:List S38} {l2:List S40} {s:ByteArray}
theorem KV(h1:l1.length≤100)(h2:l2.length≤150)(Z:∀x∈l1,x.f4.size≤1000)(k:Nat)(hk:7000≤k):
    ∃r,rH.f k s l1 l2=some r∧(r.2=0→0<r.1.length∧r.1.length≤1000∧∃n,eu.f k s l1 l2=some (n,0)):=by
  obtain⟨n,e,L⟩:=GL (s:=s) h1 h2 Z k hk;unfold rH.f;rw[L];simp only[Option.bind_some];by_cases D:e≠0
  · rw[if_pos D]
    exact⟨_,rfl,fun h=>absurd h D⟩
  · have G:e=0:=by simpa using D
    subst G;rw[if_neg D];have Y:=FH L;obtain⟨⟨_,X,_⟩,_⟩:=Y.en 0 (Or.inl rfl);obtain⟨hi,_⟩:=(xC l1 (by omega)).mp X;obtain⟨_,_⟩:=hi;rw[if_pos ⟨by omega,by omega,by omega⟩];obtain⟨r,hr,X,hl,hp⟩:=KI Y k (by omega);rw[hr];simp only[Option.bind_some];by_cases I:r.2.2.e≠0
    · rw[if_pos I]
      exact⟨_,rfl,fun h=>absurd h I⟩
    · rw[if_neg I]
      by_cases U:(r.2.2.met.any fun b=> !b)=true
      · rw[if_pos U]
        exact⟨_,rfl,fun h=>absurd h (show(19:Int)≠0 by decide)⟩
      · rw[if_neg U]
        exact⟨_,rfl,fun _=>⟨hp,hl,n,rfl⟩⟩
theorem AB(h1:l1.length≤100)(G:∀x∈l1,x.f4.size≤1000)(a b:Int):∀(m i:Nat) (c d:Int) (k:Nat),i+m=l1.length+1→6000+m≤k→∃r,iy.l0 k (i:Int) s l1 l2 a b c d=some r
  |0,i,c,d,k,hi,hk=>by
    obtain⟨k,rfl⟩:∃m,k=m+1:=⟨k-1,by omega⟩
    rw[iy.l0,if_neg (by omega)]
    exact⟨_,rfl⟩
  |m+1,i,c,d,k,hi,hk=>by
    obtain⟨k,rfl⟩:∃m,k=m+1:=⟨k-1,by omega⟩
    obtain⟨x,D⟩:=AR (s:=s) (l2:=l2) (show l1.length≤1000000 by omega) 60 k 0 (i:Int) rfl (by omega)
    obtain⟨_,I⟩:=Dr (s:=s) (l2:=l2) (by omega) G (i:Int) k (by omega)
    rw[iy.l0,if_pos (by omega)]
    unfold iI.f
    rw[show((0:Nat):Int)=0 from rfl]at D
    rw[D]
    simp only[Option.bind_some]
    rw[I]
    simp only[Option.bind_some]
    rw[uM i (by omega)]
    exact AB h1 G a b m (i+1) _ _ k (by omega) (by omega)
theorem CS(h1:l1.length≤100)(h2:l2.length≤150)(D:∀x∈l1,x.f4.size≤1000)(K:Nat)(I:1000*4000+8000≤K):
    ∃r,iy.f K s l1 l2=some r∧(r.2.2.2.2=0→∃n,eu.f K s l1 l2=some (n,0)):=by
  have aa:8000≤K:=Nat.le_trans (Nat.le_add_left _ _) I;obtain⟨r,Z,X⟩:=KV (s:=s) h1 h2 D K (by omega);unfold iy.f;rw[Z];simp only[Option.bind_some];by_cases e:r.2=0
  · rw[if_pos e]
    obtain⟨_,_,G⟩:=X e;have L:(1000:Nat)*4000+6001≤K:=Nat.le_trans (Nat.add_le_add_left (by decide) _) I;obtain⟨x,Y⟩:=BU (s:=s) (l:=r.1) (l1:=l1) (l2:=l2) (by omega) (by omega) D (by omega) 4000 6001 (by omega) (Nat.le_refl _) 1000 0 (Int.le_refl _) (by omega) (by omega) K L;obtain⟨y,U⟩:=BS (s:=s) (l:=r.1) (l1:=l1) (l2:=l2) (by omega) (by omega) D (by omega) 4000 6001 (by omega) (Nat.le_refl _) 1000 0 (Int.le_refl _) (by omega) (by omega) K L;rw[Y];simp only[Option.bind_some];rw[U];simp only[Option.bind_some]
    have go:∀b,∃t,iy.j0 K b s l1 l2 x y.1 0 0=some t:=fun b=>by
      obtain⟨k,rfl⟩:∃m,K=m+1:=⟨K-1,by omega⟩
      rw[iy.j0]
      split
      · exact⟨_,rfl⟩
      · exact AB h1 D x y.1 l1.length 1 0 0 k (by omega) (by omega)
    split
    · obtain⟨t,ht⟩:=go true
      exact⟨t,ht,fun _=>G⟩
    · obtain⟨t,ht⟩:=go (decide (y.1>200))
      exact⟨t,ht,fun _=>G⟩
  · rw[if_neg e]
    exact⟨_,rfl,fun h=>absurd h e⟩
theorem JK:∃K,∀k,K≤k→∃b,rD.f k s l1 l2=some b∧(b=true→l1.length≤70∧l2.length≤110∧(∀x∈l1,x.f4.size≤80)∧∃n,eu.f k s l1 l2=some (n,0)):=by
  refine⟨1000*4000+8000,fun k hk=>?_⟩;have L:8000≤k:=Nat.le_trans (Nat.le_add_left _ _) hk;obtain⟨b,X,hl⟩:=GR (s:=s) (l1:=l1) (l2:=l2) k (by omega);unfold rD.f;rw[X];simp only[Option.bind_some];by_cases e:b=true
  · rw[if_pos e]
    obtain⟨g1,U,G⟩:=hl e;obtain⟨r,Z,I⟩:=CS (s:=s) (l1:=l1) (l2:=l2) (by omega) (by omega) (fun x Y=>by have:=G x Y;omega) k hk;rw[Z];simp only[Option.bind_some];by_cases D:r.2.2.2.2=0
    · rw[if_pos D]
      exact⟨_,rfl,fun _=>⟨g1,U,G,I D⟩⟩
    · rw[if_neg D]
      exact⟨_,rfl,fun h=>by cases h⟩
  · rw[if_neg e]
    exact⟨_,rfl,fun h=>by cases h⟩
end
end Go.Proofs.Ng
