/- The walk over a definition's tree, in plain words: what the. -/
import Derived.Test.YtcaegaljhogbjaaGreatDoorNodeE
import Derived.Test.YtcaegaljhogbjaaGreatDoorRx2
set_option linter.unusedSimpArgs false
set_option linter.unusedVariables false
namespace Go.Proofs.Ng
open RowKit Lib Go.Sort PW PL PM Y Gd Gr R
def ix{α:Type}(p:α→Bool):Nat→List α→List Int
  |_,[]=>[]
  |i,x::l=>if p x=true then((i:Int)+1)::ix p (i+1) l else ix p (i+1) l
def outs(l2:List S40)(n:Int):List Int:=ix (fun x=>x.f0==n) 0 l2
def ins(l2:List S40)(n:Int):List Int:=ix (fun x=>x.f1==n) 0 l2
def inside(l1:List S38)(n:Int):List Int:=ix (fun x=>x.f1==n) 0 l1
def timers(l1:List S38)(n:Int):List Int:=ix (fun x=>decide (1≤n)&&x.f3==n&&(x.f0==8||x.f0==9)) 0 l1
def flw(l2:List S40)(f:Int):S40:=iR l2 (f-1)
def inF(l2:List S40)(f:Int):Prop:=1≤f∧f≤(l2.length:Int)
instance(l2:List S40)(f:Int):Decidable (inF l2 f):=inferInstanceAs (Decidable (_∧_))
def again(l2:List S40)(fs:List Int):List Int:=fs.filter (fun f=>(flw l2 f).f2==3)
structure Wk where
  l:List uw
  met:List Bool
  e:Int
def see(w:Wk)(n:Int):Option Wk:=if 1≤n∧n≤(w.met.length:Int)then some {w with met:=w.met.set (n-1).toNat true}else none
def seen(w:Wk)(n:Int):Option Wk:=if 0<n then see w n else some w
def AJ(w:Wk)(kd n D d:Int):Option Wk:=
  if w.l.length<1000000 then if kd=8 then(if 0<D then none else some {w with l:=w.l++[⟨kd,n,D,d⟩]})else(see {w with l:=w.l++[⟨kd,n,D,d⟩]} n).bind fun w=>seen w D else none
def yK(w:Wk)(i:Nat)(n:Int):Option Wk:=if i<w.l.length then see {w with l:=w.l.set i {kC w.l (i:Int)with f2:=n}} n else none
def rR(w:Wk)(e:Int):Wk:={w with e:=if w.e=0 then e else w.e}
def wW(l:List uw)(i:Nat):Bool:=(l.drop (i+1)).any (fun p=>p.f0==2||p.f0==3)
inductive Rq where
  |fr (f d:Int)
  |act (n d:Int)
  |blk (n d:Int)
  |lp (n d:Int)
  |sc (n d:Int)
def branch(D:Rq→Wk→Option (Int×Int×Wk))(d:Int):List Int→Bool→Int→Wk→Option (Bool×Int×Wk)
  |[],_,j,w=>some (false,j,w)
  |f::fs,first,j,w=>(AJ w 8 f 0 (wrap64 (d+1))).bind fun w1=>(D (.fr f (wrap64 (d+2))) w1).bind fun r=>
    if r.2.2.e≠0 then some (true,0,r.2.2)else if r.1=2∧(first=true∨r.2.1=j)then branch D d fs false r.2.1 r.2.2 else some (true,0,rR r.2.2 19)
def beside(D:Rq→Wk→Option (Int×Int×Wk))(l1:List S38)(l2:List S40)(d:Int):List Int→Nat→Int→Wk→Option (Bool×Nat×Int×Wk)
  |[],s,j,w=>some (false,s,j,w)
  |t::ts,s,j,w=>
    if w.e≠0 then some (true,0,0,w)else
    if iC l1 t=9 then(AJ w 10 t 0 (wrap64 (d+1))).bind fun w1=>(D (.sc t (wrap64 (d+2))) w1).bind fun r=>beside D l1 l2 d ts s j r.2.2
    else(AJ w 9 t 0 (wrap64 (d+1))).bind fun w1=>(outs l2 t).head?.bind fun f=>(D (.fr f (wrap64 (d+2))) w1).bind fun r=>
      if r.2.2.e≠0 then some (true,0,0,r.2.2)else if r.1=2∧(s=0∨r.2.1=j)then beside D l1 l2 d ts (s+1) r.2.1 r.2.2 else some (true,0,0,rR r.2.2 19)
def Fg(kd:Int):Int:=if kd=3 then 2 else if kd=4 then 3 else 4
def vN(l1:List S38)(kd:Int)(fs:List Int):Int:=fs.foldl (fun a n=>if iC l1 n=kd then n else a) 0
def uZ(l2:List S40)(kd:Int)(fs:List Int):Nat:=fs.countP (fun f=>(flw l2 f).f2==kd)
def leads(l2:List S40)(h n f:Int):Bool:=h==3&&(flw l2 f).f2==3&&(flw l2 f).f1==n
def Ay(l2:List S40)(n:Int)(i:Nat)(D G:List Int)(r:Int×Int×Wk):Option (Int×Int×Wk):=
  if D.any (leads l2 r.1 n)=true then
    match D,G with
    |[f1,f2],[g]=>
      if(flw l2 (if f1=g then f2 else f1)).f2=0 then(yK r.2.2 i r.2.1).bind fun I=>some (if f1=g then f2 else f1,0,I)
      else some (0,0,rR r.2.2 18)
    |_,_=>some (0,0,rR r.2.2 18)
  else some (0,0,rR r.2.2 20)
theorem Eh{l2:List S40}{n:Int}{i:Nat}{D G:List Int}{r:Int×Int×Wk}(I:D.any (leads l2 r.1 n)=true)(h:¬(D.length=2∧G.length=1)):Ay l2 n i D G r=some (0,0,rR r.2.2 18):=by
  unfold Ay;rw[if_pos I]
  match D,G,h with
  |[],_,_=>rfl
  |[_],_,_=>rfl
  |[_,_],[],_=>rfl
  |[_,_],[_],h=>exact absurd ⟨rfl,rfl⟩ h
  |[_,_],_::_::_,_=>rfl
  |_::_::_::_,_,_=>rfl
def xO(l1:List S38)(l2:List S40)(n:Int)(i:Nat)(b:Bool×Nat×Int×Wk):Option (Int×Int×Wk):=
  if b.1=true then some (0,0,b.2.2.2)else
  (outs l2 n).head?.bind fun f=>if b.2.2.2.e≠0∨b.2.1=0 then some (f,0,b.2.2.2)else
  if inF l2 f then
    if(flw l2 f).f1=b.2.2.1∧iC l1 b.2.2.1=5∧(ins l2 b.2.2.1).length=b.2.1+1 then
      (yK b.2.2.2 i b.2.2.1).bind fun D=>(outs l2 b.2.2.1).head?.bind fun g=>some (g,0,D)
    else some (0,0,rR b.2.2.2 19)
  else none
def wk(l1:List S38)(l2:List S40):Nat→Rq→Wk→Option (Int×Int×Wk)
  |0,_,_=>none
  |k+1, .fr f d,w=>
    if w.e≠0 then some (0,0,w)else
    if inF l2 f then
      if iC l1 (flw l2 f).f1=2 then some (1,(flw l2 f).f1,w)
      else if iC l1 (flw l2 f).f1=3∨iC l1 (flw l2 f).f1=4∨iC l1 (flw l2 f).f1=7 then(wk l1 l2 k (.act (flw l2 f).f1 d) w).bind fun r=>wk l1 l2 k (.fr r.1 d) r.2.2
      else if 2≤(outs l2 (flw l2 f).f1).length then
        if iC l1 (flw l2 f).f1=5∧0<(again l2 (outs l2 (flw l2 f).f1)).length then some (3,(flw l2 f).f1,w)
        else(wk l1 l2 k (.blk (flw l2 f).f1 d) w).bind fun r=>wk l1 l2 k (.fr r.1 d) r.2.2
      else if iC l1 (flw l2 f).f1=5∧0<(again l2 (ins l2 (flw l2 f).f1)).length then(wk l1 l2 k (.lp (flw l2 f).f1 d) w).bind fun r=>wk l1 l2 k (.fr r.1 d) r.2.2
      else some (2,(flw l2 f).f1,w)
    else none
  |k+1, .act n d,w=>
    if iC l1 n=3∨iC l1 n=4∨iC l1 n=7 then
      (AJ w (Fg (iC l1 n)) n 0 d).bind fun w1=>
      (if iC l1 n=7 then(wk l1 l2 k (.sc n (wrap64 (d+1))) w1).bind fun r=>
          if r.2.2.e=0∧0<(timers l1 n).length∧wW r.2.2.l w.l.length=false then some (true,rR r.2.2 19)else some (false,r.2.2)
        else some (false,w1)).bind fun q=>if q.1=true then some (0,0,q.2)else
      (beside (wk l1 l2 k) l1 l2 d (timers l1 n) 0 0 q.2).bind fun b=>xO l1 l2 n w.l.length b
    else none
  |k+1, .blk n d,w=>
    if iC l1 n=5∧¬(uZ l2 1 (outs l2 n)=1∧(uZ l2 2 (outs l2 n):Int)=(outs l2 n).length-1)then some (0,0,rR w 18)else
    (AJ w (if iC l1 n=5 then 5 else 6) n 0 d).bind fun w1=>(branch (wk l1 l2 k) d (outs l2 n) true 0 w1).bind fun b=>if b.1=true then some (0,0,b.2.2)else
    if iC l1 b.2.1=iC l1 n∧(ins l2 b.2.1).length=(outs l2 n).length then
      (yK b.2.2 w.l.length b.2.1).bind fun D=>(outs l2 b.2.1).head?.bind fun g=>some (g,0,D)
    else some (0,0,rR b.2.2 19)
  |k+1, .lp n d,w=>
    if(ins l2 n).length=2∧(again l2 (ins l2 n)).length=1 then
      (AJ w 7 n 0 d).bind fun w1=>(outs l2 n).head?.bind fun f=>(wk l1 l2 k (.fr f (wrap64 (d+1))) w1).bind fun r=>
      if r.2.2.e≠0 then some (0,0,r.2.2)else
      Ay l2 n w.l.length (outs l2 r.2.1) (again l2 (outs l2 r.2.1)) r
    else some (0,0,rR w 20)
  |k+1, .sc n d,w=>
    (AJ w 1 (vN l1 1 (inside l1 n)) (vN l1 2 (inside l1 n)) d).bind fun w1=>(outs l2 (vN l1 1 (inside l1 n))).head?.bind fun f=>(wk l1 l2 k (.fr f (wrap64 (d+1))) w1).bind fun r=>
    if r.2.2.e=0∧¬(r.1=1∧r.2.1=vN l1 2 (inside l1 n))then some (0,0,rR r.2.2 19)else some (0,0,r.2.2)
theorem zL{α:Type}(p:α→Bool):∀(l:List α) (i:Nat) (f:Int),f∈ix p i l↔ ∃j,∃h:j<l.length,f=((i+j:Nat):Int)+1∧p l[j]=true
  |[],i,f=>by simp[ix]
  |x::l,i,f=>by
    unfold ix
    have ih:=zL p l (i+1) f
    constructor
    · intro h
      have h2:(p x=true∧f=(i:Int)+1)∨f∈ix p (i+1) l:=by
        split at h
        · rcases List.mem_cons.mp h with rfl|h
          · exact Or.inl ⟨by assumption,rfl⟩
          · exact Or.inr h
        · exact Or.inr h
      rcases h2 with⟨D,rfl⟩|h2
      · exact⟨0,by simp,by simp,D⟩
      · obtain⟨j,G,e,D⟩:=ih.mp h2
        exact⟨j+1,by simp;omega,by rw[e];omega,by simpa using D⟩
    · rintro⟨j,G,e,D⟩
      cases j with
      |zero=>
        have D:p x=true:=D;rw[if_pos D,e];exact List.mem_cons.mpr (Or.inl (by simp))
      |succ j=>
        have:f∈ix p (i+1) l:=ih.mpr ⟨j,by simpa using G,by rw[e];omega,by simpa using D⟩
        split
        · exact List.mem_cons.mpr (Or.inr this)
        · exact this
theorem xU{α:Type}(p:α→Bool):∀(l:List α) (i:Nat),(ix p i l).Nodup
  |[],i=>by simp[ix]
  |x::l,i=>by
    unfold ix
    split
    · refine List.nodup_cons.mpr ⟨fun h=>?_,xU p l (i+1)⟩
      obtain⟨j,_,e,_⟩:=(zL p l (i+1) _).mp h;omega
    · exact xU p l (i+1)
theorem Ah:∀{A B:List Int},A.Nodup→(∀a∈A,a∈B)→A.length≤B.length
  |[],B,_,_=>Nat.zero_le _
  |a::A,B,hn,hs=>by
    have⟨h1,h2⟩:=List.nodup_cons.mp hn
    have D:=hs a (List.mem_cons_self ..)
    have:=Ah (A:=A) (B:=B.erase a) h2 (fun x G=>(List.mem_erase_of_ne (by rintro rfl;exact h1 G)).mpr (hs x (List.mem_cons_of_mem _ G)))
    have hl:=List.length_erase_of_mem D
    have I:0<B.length:=List.length_pos_of_mem D
    simp only[List.length_cons]
    omega
theorem H7{A B:List Int}(G:A.Nodup)(hs:∀a∈A,a∈B)(hl:B.length≤A.length):∀b∈B,b∈A:=by
  intro b I;refine Classical.byContradiction fun h=>?_;have:=Ah (A:=b::A) (B:=B) (List.nodup_cons.mpr ⟨h,G⟩) (fun x D=>(List.mem_cons.mp D).elim (fun e=>e▸I) (hs x));simp only[List.length_cons]at this;omega
section
variable (l1:List S38) (l2:List S40)
def src(f:Int):Int:=(flw l2 f).f0
def dst(f:Int):Int:=(flw l2 f).f1
def host(t:Int):Int:=(nd l1 t).f3
def scp(t:Int):Int:=(nd l1 t).f1
theorem wT{j:Nat}(h:j<l2.length):flw l2 ((j:Int)+1)=l2[j]:=by
  have e:((j:Int)+1-1).toNat=j:=by omega
  unfold flw iR;rw[e,List.getD_eq_getElem?_getD,List.getElem?_eq_getElem h];rfl
theorem tY{f n:Int}:f∈outs l2 n↔inF l2 f∧src l2 f=n:=by
  unfold outs inF src;rw[zL];constructor
  · rintro⟨j,h,rfl,I⟩
    rw[Nat.zero_add,wT l2 h];exact⟨⟨by omega,by omega⟩,by simpa using I⟩
  · rintro⟨⟨h1,_⟩,G⟩
    (have D:(f-1).toNat<l2.length:=by omega);(have e:f=(((f-1).toNat:Nat):Int)+1:=by omega);refine⟨(f-1).toNat,D,by omega,?_⟩;rw[e,wT l2 D]at G;simpa using G
theorem vS{f n:Int}:f∈ins l2 n↔inF l2 f∧dst l2 f=n:=by
  unfold ins inF dst;rw[zL];constructor
  · rintro⟨j,h,rfl,I⟩
    rw[Nat.zero_add,wT l2 h];exact⟨⟨by omega,by omega⟩,by simpa using I⟩
  · rintro⟨⟨h1,_⟩,G⟩
    (have D:(f-1).toNat<l2.length:=by omega);(have e:f=(((f-1).toNat:Nat):Int)+1:=by omega);refine⟨(f-1).toNat,D,by omega,?_⟩;rw[e,wT l2 D]at G;simpa using G
theorem Bd(hs:l1.length≤1000000){j:Nat}(h:j<l1.length):nd l1 ((j:Int)+1)=l1[j]:=by
  have e:(wrap64 ((j:Int)+1-1)).toNat=j:=by unfold wrap64;omega
  unfold nd iH;rw[e,List.getD_eq_getElem?_getD,List.getElem?_eq_getElem h];rfl
theorem Fh{n:Int}(h:inL l1 n):iC l1 n=(nd l1 n).f0:=if_pos h
theorem xC(hs:l1.length≤1000000){t n:Int}:t∈inside l1 n↔inL l1 t∧scp l1 t=n:=by
  unfold inside inL scp;rw[zL];constructor
  · rintro⟨j,h,rfl,I⟩
    rw[Nat.zero_add,Bd l1 hs h];exact⟨⟨by omega,by omega⟩,by simpa using I⟩
  · rintro⟨⟨h1,_⟩,G⟩
    (have D:(t-1).toNat<l1.length:=by omega);(have e:t=(((t-1).toNat:Nat):Int)+1:=by omega);refine⟨(t-1).toNat,D,by omega,?_⟩;rw[e,Bd l1 hs D]at G;simpa using G
theorem yP(hs:l1.length≤1000000){t n:Int}:t∈timers l1 n↔inL l1 t∧1≤n∧host l1 t=n∧(iC l1 t=8∨iC l1 t=9):=by
  unfold timers host;rw[zL];constructor
  · rintro⟨j,h,rfl,G⟩
    (have D:inL l1 ((j:Int)+1):=⟨by omega,by omega⟩);rw[Nat.zero_add,Fh l1 D,Bd l1 hs h];simp only[Bool.and_eq_true,Bool.or_eq_true,decide_eq_true_eq,beq_iff_eq]at G;exact⟨D,G.1.1,G.1.2,G.2⟩
  · rintro⟨D,h1,U,I⟩
    obtain⟨X,Y⟩:=D;(have L:(t-1).toNat<l1.length:=by omega);(have e:t=(((t-1).toNat:Nat):Int)+1:=by omega);refine⟨(t-1).toNat,L,by omega,?_⟩;rw[Fh l1 ⟨X,Y⟩]at I;rw[e,Bd l1 hs L]at U I;simp only[Bool.and_eq_true,Bool.or_eq_true,decide_eq_true_eq,beq_iff_eq];exact⟨⟨h1,U⟩,I⟩
theorem zD(kd:Int):∀(fs:List Int) (a:Int),(∃n∈fs,iC l1 n=kd)→(fs.foldl (fun a n=>if iC l1 n=kd then n else a) a)∈fs∧iC l1 (fs.foldl (fun a n=>if iC l1 n=kd then n else a) a)=kd
  |[],a,h=>by obtain⟨n,h,_⟩:=h;cases h
  |x::fs,a,h=>by
    simp only[List.foldl_cons]
    by_cases h2:∃n∈fs,iC l1 n=kd
    · have:=zD kd fs (if iC l1 x=kd then x else a) h2
      exact⟨List.mem_cons_of_mem _ this.1,this.2⟩
    · obtain⟨n,D,hk⟩:=h
      have L:iC l1 x=kd:=by
        rcases List.mem_cons.mp D with rfl|D
        · exact hk
        · exact absurd ⟨n,D,hk⟩ h2
      rw[if_pos L];have I:∀(G:List Int),(∀n∈G,iC l1 n≠kd)→G.foldl (fun a n=>if iC l1 n=kd then n else a) x=x:=by
        intro G
        induction G with
        |nil=>intro _;rfl
        |cons y G ih=>intro U;rw[List.foldl_cons,if_neg (U y (List.mem_cons_self ..))];exact ih (fun n D=>U n (List.mem_cons_of_mem _ D))
      rw[I fs (fun n D hk=>h2 ⟨n,D,hk⟩)];exact⟨List.mem_cons_self ..,L⟩
end
section
variable (l1:List S38) (l2:List S40)
structure wG:Prop where
  n1:l1.length≤100
  n2:l2.length≤150
  fl:∀f,inF l2 f→inL l1 (src l2 f)∧inL l1 (dst l2 f)∧iC l1 (dst l2 f)≠1∧iC l1 (dst l2 f)≠8∧iC l1 (dst l2 f)≠9
  fk:∀f,inF l2 f→(flw l2 f).f2≠0→iC l1 (src l2 f)=5∧2≤(outs l2 (src l2 f)).length
  o1:∀n,inL l1 n→iC l1 n=1∨iC l1 n=3∨iC l1 n=4∨iC l1 n=7∨iC l1 n=8→(outs l2 n).length=1
  i1:∀n,inL l1 n→iC l1 n=3∨iC l1 n=4∨iC l1 n=7→(ins l2 n).length=1
  fo:∀n,inL l1 n→iC l1 n=5∨iC l1 n=6→((ins l2 n).length=1∧2≤(outs l2 n).length)∨(2≤(ins l2 n).length∧(outs l2 n).length=1)
  kd:∀n,inL l1 n→1≤iC l1 n∧iC l1 n≤9
  en:∀s,s=0∨(inL l1 s∧(iC l1 s=7∨iC l1 s=9))→(∃a∈inside l1 s,iC l1 a=1)∧∃b∈inside l1 s,iC l1 b=2
variable {l1 l2}
structure Inv(l1:List S38)(l2:List S40)(T X:List Int):Prop where
  nd:T.Nodup
  fi:∀f∈T,inF l2 f
  fs:∀f∈T,src l2 f∈X
  xi:∀x∈X,inL l1 x
  st:∀x∈X,iC l1 x≠1→iC l1 x≠8→iC l1 x≠9→∀f,inF l2 f→dst l2 f=x→f∈T∨(flw l2 f).f2=3
  tm:∀x∈X,iC l1 x=8∨iC l1 x=9→host l1 x∈X
  sc:∀x∈X,iC l1 x=1→scp l1 x=0∨scp l1 x∈X
structure Gr(l1:List S38)(l2:List S40)(T X T' X':List Int):Prop where
  t:∀f∈T,f∈T'
  x:∀n∈X,n∈X'
  h:∀n∈X',iC l1 n=8∨iC l1 n=9→n∈X∨host l1 n∉X
  f:∀f∈T',f∈T∨src l2 f∉X
theorem Gr.refl(T X:List Int):Gr l1 l2 T X T X:=⟨fun _ h=>h,fun _ h=>h,fun _ h _=>Or.inl h,fun _ h=>Or.inl h⟩
theorem Gr.trans{T X T1 D I G:List Int}(a:Gr l1 l2 T X T1 D)(b:Gr l1 l2 T1 D I G):Gr l1 l2 T X I G:=
  ⟨fun f h=>b.t f (a.t f h),fun n h=>b.x n (a.x n h),fun n h k=>(b.h n h k).elim (fun h=>a.h n h k) (fun h=>Or.inr fun h2=>h (a.x _ h2)),fun f h=>(b.f f h).elim (fun h=>a.f f h) (fun h=>Or.inr fun h2=>h (a.x _ h2))⟩
theorem Gr.node{T X:List Int}{n:Int}(h:iC l1 n=8∨iC l1 n=9→host l1 n∉X):Gr l1 l2 T X T (n::X):=
  ⟨fun _ h=>h,fun _ h=>List.mem_cons_of_mem _ h,fun m D k=>(List.mem_cons.mp D).elim (fun e=>Or.inr (by subst e;exact h k)) Or.inl,fun _ h=>Or.inl h⟩
structure xL(l2:List S40)(T X:List Int)(f:Int):Prop where
  i:inF l2 f
  n:f∉T
  s:src l2 f∈X
  a:(flw l2 f).f2≠3
theorem Ap(G:wG l1 l2){T X:List Int}(h:Inv l1 l2 T X):T.length≤l2.length:=by
  have:=Ah (A:=T) (B:=(List.range l2.length).map (fun(j:Nat)=>(j:Int)+1)) h.nd (fun f D=>by
    obtain⟨_,b⟩:=h.fi f D
    exact List.mem_map.mpr ⟨(f-1).toNat,List.mem_range.mpr (by omega),by omega⟩)
  simpa using this
theorem Jf(I:wG l1 l2){T X:List Int}{f:Int}(h:Inv l1 l2 T X)(D:xL l2 T X f):T.length+1≤l2.length:=by
  have:=Ah (A:=f::T) (B:=(List.range l2.length).map (fun(j:Nat)=>(j:Int)+1)) (List.nodup_cons.mpr ⟨D.n,h.nd⟩) (fun g G=>by
    have:inF l2 g:=(List.mem_cons.mp G).elim (fun e=>e▸D.i) (h.fi g)
    obtain⟨_,b⟩:=this
    exact List.mem_map.mpr ⟨(g-1).toNat,List.mem_range.mpr (by omega),by omega⟩)
  simpa using this
theorem Inv.go{T X:List Int}{f:Int}(h:Inv l1 l2 T X)(G:xL l2 T X f):Inv l1 l2 (f::T) X where
  nd:=List.nodup_cons.mpr ⟨G.n,h.nd⟩
  fi:=fun g D=>(List.mem_cons.mp D).elim (fun e=>e▸G.i) (h.fi g)
  fs:=fun g D=>(List.mem_cons.mp D).elim (fun e=>e▸G.s) (h.fs g)
  xi:=h.xi
  st:=fun x I a b c g D e=>(h.st x I a b c g D e).elim (fun h=>Or.inl (List.mem_cons_of_mem _ h)) Or.inr
  tm:=h.tm
  sc:=h.sc
theorem Inv.come {T X:List Int} {n:Int} (h:Inv l1 l2 T X) (L:inL l1 n) (hs:iC l1 n≠1→iC l1 n≠8→iC l1 n≠9→∀f,inF l2 f→dst l2 f=n→f∈T∨(flw l2 f).f2=3)
    (ht:iC l1 n=8∨iC l1 n=9→host l1 n∈X) (G:iC l1 n=1→scp l1 n=0∨scp l1 n∈X):Inv l1 l2 T (n::X) where
  nd:=h.nd
  fi:=h.fi
  fs:=fun f I=>List.mem_cons_of_mem _ (h.fs f I)
  xi:=fun x D=>(List.mem_cons.mp D).elim (fun e=>e▸L) (h.xi x)
  st:=fun x D=>(List.mem_cons.mp D).elim (fun e=>by subst e;exact hs) (h.st x)
  tm:=fun x D k=>List.mem_cons_of_mem _ ((List.mem_cons.mp D).elim (fun e=>by subst e;exact ht k) (fun D=>h.tm x D k))
  sc:=fun x D k=>((List.mem_cons.mp D).elim (fun e=>by subst e;exact G k) (fun D=>h.sc x D k)).imp id (List.mem_cons_of_mem _)
theorem Inv.new(I:wG l1 l2){T X:List Int}{f:Int}(h:Inv l1 l2 T X)(D:xL l2 T X f):dst l2 f∉X:=by
  intro G;obtain⟨_,_,a,b,c⟩:=I.fl f D.i;exact(h.st _ G a b c f D.i rfl).elim D.n D.a
theorem zH(D:wG l1 l2){f:Int}(G:inF l2 f)(h:(outs l2 (src l2 f)).length≤1∨iC l1 (src l2 f)≠5):(flw l2 f).f2≠3:=by
  intro e;obtain⟨a,b⟩:=D.fk f G (by rw[e];decide);rcases h with h|h
  · omega
  · exact h a
theorem AP{l:List Int}(h:l.length=1):∃f,l.head?=some f∧f∈l:=by
  match l,h with
  |[f],_=>exact⟨f,rfl,List.mem_cons_self ..⟩
theorem wK{T X:List Int}{n f:Int}(h:Inv l1 l2 T X)(G:n∉X)(D:f∈outs l2 n):f∉T:=fun ht=>G (((tY l2).mp D).2▸h.fs f ht)
theorem Fa{w:Wk}(D:w.met.length=l1.length){n:Int}(G:inL l1 n):∃w',see w n=some w'∧w'.met.length=l1.length∧w'.e=w.e∧w'.l=w.l:=by
  obtain⟨a,b⟩:=G;exact⟨_,if_pos ⟨a,by omega⟩,by simp[D],rfl,rfl⟩
theorem yS{w:Wk}(L:w.met.length=l1.length)(hl:w.l.length<1000000)(kd n G d:Int)(X:kd≠8→inL l1 n)(D:G=0∨(kd≠8∧inL l1 G)):
    ∃w',AJ w kd n G d=some w'∧w'.met.length=l1.length∧w'.e=w.e∧w'.l.length=w.l.length+1:=by
  have I:kd≠8→∀w1:Wk,w1.met.length=l1.length→∃w',seen w1 G=some w'∧w'.met.length=l1.length∧w'.e=w1.e∧w'.l=w1.l:=by
    intro hk w1 h1;unfold seen;rcases D with rfl|D
    · exact⟨w1,rfl,h1,rfl,rfl⟩
    · rw[if_pos (by have:=D.2.1;omega)]
      exact Fa h1 D.2
  unfold AJ;rw[if_pos hl];by_cases hk:kd=8
  · rw [if_pos hk, if_neg (by rcases D with h | h; (· omega); exact absurd hk h.1)]
    exact⟨_,rfl,L,rfl,by simp⟩
  · rw[if_neg hk]
    obtain⟨w2,g1,Z,g3,U⟩:=Fa (w:={w with l:=w.l++[⟨kd,n,G,d⟩]}) L (X hk);obtain⟨w',h1,h2,Y,h4⟩:=I hk w2 Z;exact⟨w',by rw[g1];exact h1,h2,by rw[Y,g3],by rw[h4,U];simp⟩
theorem Cz{w:Wk}(L:w.met.length=l1.length){i:Nat}(hi:i<w.l.length){n:Int}(G:inL l1 n):∃w',yK w i n=some w'∧w'.met.length=l1.length∧w'.e=w.e∧w'.l.length=w.l.length:=by
  unfold yK;rw[if_pos hi];obtain⟨w',h1,h2,I,D⟩:=Fa (w:={w with l:=w.l.set i {kC w.l (i:Int)with f2:=n}}) L G;exact⟨w',h1,h2,I,by rw[D];simp⟩
def Pre(l1:List S38)(l2:List S40)(T X:List Int)(w:Wk):Rq→Prop
  | .fr f _=>xL l2 T X f∧w.l.length≤4*T.length+3
  | .act n _=>n∉X∧inL l1 n∧(iC l1 n=3∨iC l1 n=4∨iC l1 n=7)∧(∀f,inF l2 f→dst l2 f=n→f∈T)∧w.l.length+1≤4*T.length
  | .blk n _=>n∉X∧inL l1 n∧(iC l1 n=5∨iC l1 n=6)∧2≤(outs l2 n).length∧¬(iC l1 n=5∧0<(again l2 (outs l2 n)).length)∧(∀f,inF l2 f→dst l2 f=n→f∈T)∧w.l.length+1≤4*T.length
  | .lp n _=>n∉X∧inL l1 n∧iC l1 n=5∧(outs l2 n).length=1∧(∃f∈T,dst l2 f=n∧(flw l2 f).f2≠3)∧w.l.length+1≤4*T.length
  | .sc s _=>(s=0∨(s∈X∧inL l1 s∧(iC l1 s=7∨iC l1 s=9)))∧(∀a,iC l1 a=1→inL l1 a→scp l1 a=s→a∉X)∧w.l.length≤4*T.length+2
def need(m:Nat):Rq→Nat
  | .fr _ _=>3*m+1
  | .sc _ _=>3*m+2
  |_=>3*m+3
def Post(l1:List S38)(l2:List S40)(T X D G:List Int)(r:Int×Int×Wk):Rq→Prop
  | .fr f _=>(∀g∈D,g∈T∨g=f∨src l2 g∉X)∧(r.2.2.e=0→inL l1 r.2.1∧r.2.1∉G∧(∃e∈D,e∉T∧dst l2 e=r.2.1)∧(r.1=3→iC l1 r.2.1=5))
  | .sc _ _=>∀g∈D,g∈T∨src l2 g∉X
  |_=>(∀g∈D,g∈T∨src l2 g∉X)∧(r.2.2.e=0→xL l2 D G r.1∧src l2 r.1∉X)
def more:Rq→Nat
  | .sc _ _=>1
  |_=>0
def Did(l1:List S38)(l2:List S40)(k:Nat)(I:Rq)(T X:List Int)(w:Wk):Prop:=
  ∃r D G,wk l1 l2 k I w=some r∧Inv l1 l2 D G∧(∀f∈T,f∈D)∧(∀n∈X,n∈G)∧(∀n∈G,iC l1 n=8∨iC l1 n=9→n∈X∨host l1 n∉X)∧
    r.2.2.met.length=l1.length∧r.2.2.l.length≤4*D.length∧w.l.length+more I≤r.2.2.l.length∧T.length≤D.length∧Post l1 l2 T X D G r I
end
section
variable {l1:List S38} {l2:List S40}
def zy(l1:List S38)(l2:List S40)(k:Nat):Prop:=
  ∀D T X w,Inv l1 l2 T X→Pre l1 l2 T X w D→need (l2.length-T.length) D≤k→w.met.length=l1.length→w.e=0→Did l1 l2 k D T X w
theorem vw(w:Wk){e:Int}(D:e≠0):(rR w e).e≠0:=by
  unfold rR;by_cases h:w.e=0
  · simpa[h]using D
  · simp[h]
theorem Eo{n f:Int}(h:(ins l2 n).length=1)(G:f∈ins l2 n):∀g,inF l2 g→dst l2 g=n→g=f:=by
  intro g D e;have D:g∈ins l2 n:=(vS l2).mpr ⟨D,e⟩
  match h2:ins l2 n,h with
  |[x],_=>
    rw[h2]at G D;rw[List.mem_singleton.mp G,List.mem_singleton.mp D]
theorem Hq (hF:wG l1 l2) {k:Nat} (ih:zy l1 l2 k) {T X:List Int} {w:Wk} {f d:Int} (hi:Inv l1 l2 T X) (hf:xL l2 T X f) (hk:3*(l2.length-T.length)≤k) (rq:Rq)
    (hd:Did l1 l2 k rq (f::T) X w) (ab:∀G I r,Post l1 l2 (f::T) X G I r rq→(∀g∈G,g∈f::T∨src l2 g∉X)∧(r.2.2.e=0→xL l2 G I r.1∧src l2 r.1∉X)):
    ∃r G I,((wk l1 l2 k rq w).bind fun r=>wk l1 l2 k (.fr r.1 d) r.2.2)=some r∧Inv l1 l2 G I∧(∀f∈T,f∈G)∧(∀n∈X,n∈I)∧(∀n∈I,iC l1 n=8∨iC l1 n=9→n∈X∨host l1 n∉X)∧
    r.2.2.met.length=l1.length∧r.2.2.l.length≤4*G.length∧w.l.length≤r.2.2.l.length∧T.length≤G.length∧Post l1 l2 T X G I r (.fr f d):=by
  obtain⟨r,U,X2,e1,i2,t2,Y,h2,m2,b2,c2,d2,Z⟩:=hd;obtain⟨Z,q2⟩:=ab U X2 r Z;have hm:=Jf hF hi hf;simp only[List.length_cons]at d2;rw[e1];simp only[Option.bind_some];by_cases L:r.2.2.e=0
  · obtain⟨aa,s2⟩:=q2 L
    obtain⟨r3,T3,X3,e3,i3,t3,x3,h3,m3,b3,_,_,p3⟩:=ih (.fr r.1 d) U X2 r.2.2 i2 ⟨aa,by omega⟩ (show 3*(l2.length-U.length)+1≤k by omega) m2 L;refine⟨r3,T3,X3,e3,i3,fun g D=>t3 g (t2 g (List.mem_cons_of_mem _ D)),fun g D=>x3 g (Y g D),fun n hn kn=>(h3 n hn kn).elim (fun h=>h2 n h kn) (fun h=>Or.inr fun hx=>h (Y _ hx)),m3,b3,by omega,by omega,?_,?_⟩
    · intro g D
      rcases p3.1 g D with h|rfl|h
      · rcases Z g h with h|h
        · exact(List.mem_cons.mp h).elim (fun h=>Or.inr (Or.inl h)) Or.inl
        · exact Or.inr (Or.inr h)
      · exact Or.inr (Or.inr s2)
      · exact Or.inr (Or.inr fun hx=>h (Y _ hx))
    · intro h0
      obtain⟨a,b,⟨e,c1,c4,c5⟩,c6⟩:=p3.2 h0;exact⟨a,b,⟨e,c1,fun h=>c4 (t2 e (List.mem_cons_of_mem _ h)),c5⟩,c6⟩
  · obtain⟨k',rfl⟩:∃k',k=k'+1:=⟨k-1,by omega⟩
    refine⟨(0,0,r.2.2),U,X2,?_,i2,fun g D=>t2 g (List.mem_cons_of_mem _ D),Y,h2,m2,b2,Nat.le_trans (Nat.le_add_right _ _) c2,by omega,?_,fun h0=>absurd h0 L⟩
    · unfold wk
      rw[if_pos L]
    · intro g D
      rcases Z g D with h|h
      · exact(List.mem_cons.mp h).elim (fun h=>Or.inr (Or.inl h)) Or.inl
      · exact Or.inr (Or.inr h)
theorem Lf(hF:wG l1 l2){k:Nat}(ih:zy l1 l2 k)(f d:Int)(T X:List Int)(w:Wk)(hi:Inv l1 l2 T X)(hp:Pre l1 l2 T X w (.fr f d))(hk:need (l2.length-T.length) (.fr f d)≤k+1)(hm:w.met.length=l1.length)(he:w.e=0):
    Did l1 l2 (k+1) (.fr f d) T X w:=by
  obtain⟨I,_⟩:=hp;have hN:=Jf hF hi I;have G:=Inv.new hF hi I;have U:=hi.go I;obtain⟨_,D,_,_,_⟩:=hF.fl f I.i;have ab:f∈ins l2 (dst l2 f):=(vS l2).mpr ⟨I.i,rfl⟩;replace hk:3*(l2.length-T.length)+1≤k+1:=hk;unfold Did wk;rw[if_neg (by simp[he]),if_pos I.i];change ∃r Y X',(if iC l1 (dst l2 f)=2 then _ else if iC l1 (dst l2 f)=3∨iC l1 (dst l2 f)=4∨iC l1 (dst l2 f)=7 then _ else if 2≤(outs l2 (dst l2 f)).length then(if iC l1 (dst l2 f)=5∧0<(again l2 (outs l2 (dst l2 f))).length then _ else _)else if iC l1 (dst l2 f)=5∧0<(again l2 (ins l2 (dst l2 f))).length then _ else _)=some r∧_
  have L:∀h:Int,(h=3→iC l1 (dst l2 f)=5)→∃r Y X',(some (h,dst l2 f,w):Option (Int×Int×Wk))=some r∧Inv l1 l2 Y X'∧(∀f∈T,f∈Y)∧(∀n∈X,n∈X')∧(∀n∈X',iC l1 n=8∨iC l1 n=9→n∈X∨host l1 n∉X)∧
      r.2.2.met.length=l1.length∧r.2.2.l.length≤4*Y.length∧w.l.length≤r.2.2.l.length∧T.length≤Y.length∧Post l1 l2 T X Y X' r (.fr f d):=by
    intro h h3
    refine⟨_,f::T,X,rfl,U,fun g Z=>List.mem_cons_of_mem _ Z,fun g Z=>Z,fun n hn _=>Or.inl hn,hm,by simp only[List.length_cons];omega,Nat.le_refl _,by simp only[List.length_cons];omega,?_,?_⟩
    · exact fun g Z=>(List.mem_cons.mp Z).elim (fun h=>Or.inr (Or.inl h)) Or.inl
    · exact fun _=>⟨D,G,⟨f,List.mem_cons_self ..,I.n,rfl⟩,h3⟩
  by_cases k2:iC l1 (dst l2 f)=2
  · rw[if_pos k2]
    exact L 1 (fun h=>absurd h (by decide))
  rw[if_neg k2];by_cases ka:iC l1 (dst l2 f)=3∨iC l1 (dst l2 f)=4∨iC l1 (dst l2 f)=7
  · rw[if_pos ka]
    refine Hq hF ih hi I (by omega) (.act (dst l2 f) d) (ih (.act (dst l2 f) d) (f::T) X w U ⟨G,D,ka,?_,by simp only[List.length_cons];omega⟩ (show 3*(l2.length-(f::T).length)+3≤k by simp only[List.length_cons];omega) hm he) (fun Y X' r h=>h);exact fun g Z e=>by rw[Eo (hF.i1 _ D ka) ab g Z e];exact List.mem_cons_self ..
  rw[if_neg ka];have af:=hF.kd _ D;have ae:iC l1 (dst l2 f)=5∨iC l1 (dst l2 f)=6:=by omega
  have ag:=hF.fo _ D ae;by_cases ho:2≤(outs l2 (dst l2 f)).length
  · rw[if_pos ho]
    by_cases ht:iC l1 (dst l2 f)=5∧0<(again l2 (outs l2 (dst l2 f))).length
    · rw[if_pos ht]
      exact L 3 (fun _=>ht.1)
    · rw[if_neg ht]
      refine Hq hF ih hi I (by omega) (.blk (dst l2 f) d) (ih (.blk (dst l2 f) d) (f::T) X w U ⟨G,D,ae,ho,ht,?_,by simp only[List.length_cons];omega⟩ (show 3*(l2.length-(f::T).length)+3≤k by simp only[List.length_cons];omega) hm he) (fun Y X' r h=>h);exact fun g Z e=>by rw[Eo (by omega) ab g Z e];exact List.mem_cons_self ..
  rw[if_neg ho];by_cases aa:iC l1 (dst l2 f)=5∧0<(again l2 (ins l2 (dst l2 f))).length
  · rw[if_pos aa]
    exact Hq hF ih hi I (by omega) (.lp (dst l2 f) d) (ih (.lp (dst l2 f) d) (f::T) X w U ⟨G,D,aa.1,by omega,⟨f,List.mem_cons_self ..,rfl,I.a⟩,by simp only[List.length_cons];omega⟩ (show 3*(l2.length-(f::T).length)+3≤k by simp only[List.length_cons];omega) hm he) (fun Y X' r h=>h)
  · rw[if_neg aa]
    exact L 2 (fun h=>absurd h (by decide))
end
section
variable {l1:List S38} {l2:List S40}
theorem KN(D:wG l1 l2){k:Nat}(ih:zy l1 l2 k)(s d:Int)(T X:List Int)(w:Wk)(hi:Inv l1 l2 T X)(hp:Pre l1 l2 T X w (.sc s d))(hk:need (l2.length-T.length) (.sc s d)≤k+1)(hm:w.met.length=l1.length)(he:w.e=0):
    Did l1 l2 (k+1) (.sc s d) T X w:=by
  obtain⟨h1,h2,_⟩:=hp;replace hk:3*(l2.length-T.length)+2≤k+1:=hk;have hs:l1.length≤1000000:=by have:=D.n1;omega
  have ab:=Ap D hi;have ae:=D.n2;obtain⟨ha,hb⟩:=D.en s (h1.imp id (fun h=>⟨h.2.1,h.2.2⟩));have⟨ea,ka⟩:=zD l1 1 (inside l1 s) 0 ha;have⟨eb,kb⟩:=zD l1 2 (inside l1 s) 0 hb;change vN l1 1 (inside l1 s)∈inside l1 s at ea;change vN l1 2 (inside l1 s)∈inside l1 s at eb;change iC l1 (vN l1 1 (inside l1 s))=1 at ka;obtain⟨L,sa⟩:=(xC l1 hs).mp ea;obtain⟨ib,_⟩:=(xC l1 hs).mp eb;unfold Did wk;generalize vN l1 1 (inside l1 s)=a at*;generalize vN l1 2 (inside l1 s)=b at*;obtain⟨w1,e1,m1,q1,_⟩:=yS hm (by omega) 1 a b d (fun _=>L) (Or.inr ⟨by decide,ib⟩);have G:a∉X:=h2 a ka L sa;obtain⟨f,hf,U⟩:=AP (D.o1 a L (Or.inl ka));have⟨fi,fs⟩:=(tY l2).mp U;have Y:Inv l1 l2 T (a::X):=hi.come L (fun h=>absurd ka h) (fun h=>by omega) (fun _=>by rw[sa];exact h1.imp id (fun h=>h.1));have aa:xL l2 T (a::X) f:=⟨fi,wK hi G U,by rw[fs];exact List.mem_cons_self ..,zH D fi (Or.inl (by rw[fs];have:=D.o1 a L (Or.inl ka);omega))⟩
  obtain⟨r,T2,X2,e2,i2,t2,x2,g2,m2,b2,_,d2,p2⟩:=ih (.fr f (wrap64 (d+1))) T (a::X) w1 Y ⟨aa,by omega⟩ (show 3*(l2.length-T.length)+1≤k by omega) m1 (q1.trans he);rw[e1];simp only[Option.bind_some];rw[hf];simp only[Option.bind_some];rw[e2];simp only[Option.bind_some];have hP:∀g∈T2,g∈T∨src l2 g∉X:=fun g hg=>(p2.1 g hg).elim Or.inl (fun h=>Or.inr (h.elim (fun h=>by rw[h,fs];exact G) (fun h Z=>h (List.mem_cons_of_mem _ Z))));have hH:∀n∈X2,iC l1 n=8∨iC l1 n=9→n∈X∨host l1 n∉X:=fun n I kn=>(g2 n I kn).elim (fun h=>(List.mem_cons.mp h).elim (fun h=>by subst h;omega) Or.inl) (fun h=>Or.inr fun Z=>h (List.mem_cons_of_mem _ Z))
  split
  · exact⟨_,T2,X2,rfl,i2,t2,fun n I=>x2 n (List.mem_cons_of_mem _ I),hH,m2,b2,by show w.l.length+1≤r.2.2.l.length;omega,d2,hP⟩
  · exact⟨_,T2,X2,rfl,i2,t2,fun n I=>x2 n (List.mem_cons_of_mem _ I),hH,m2,b2,by show w.l.length+1≤r.2.2.l.length;omega,d2,hP⟩
theorem F3{L:List Int}{f g:Int}(Y:L.Nodup)(h2:L.length=2)(h1:(again l2 L).length=1)(D:f∈L)(X:(flw l2 f).f2≠3)(G:g∈L):g=f∨(flw l2 g).f2=3:=by
  match L,h2 with
  |[x,y],_=>
    unfold again at h1;simp only[List.mem_cons,List.not_mem_nil,or_false]at D G;by_cases U:(flw l2 x).f2=3<;>by_cases I:(flw l2 y).f2=3<;>simp[U,I]at h1<;>rcases D with rfl|rfl<;>rcases G with rfl|rfl<;>simp_all
theorem K8(hF:wG l1 l2){k:Nat}(ih:zy l1 l2 k)(n d:Int)(T X:List Int)(w:Wk)(hi:Inv l1 l2 T X)(hp:Pre l1 l2 T X w (.lp n d))(hk:need (l2.length-T.length) (.lp n d)≤k+1)(G:w.met.length=l1.length)(he:w.e=0):
    Did l1 l2 (k+1) (.lp n d) T X w:=by
  obtain⟨I,hn,_,ho,⟨f0,af,aj,ak⟩,_⟩:=hp;replace hk:3*(l2.length-T.length)+3≤k+1:=hk;have an:=Ap hF hi;have ao:=hF.n2;unfold Did wk;by_cases hc:(ins l2 n).length=2∧(again l2 (ins l2 n)).length=1
  · rw[if_pos hc]
    obtain⟨w1,e1,m1,q1,_⟩:=yS G (by omega) 7 n 0 d (fun _=>hn) (Or.inl rfl);obtain⟨f,hf,D⟩:=AP ho;have⟨fi,fs⟩:=(tY l2).mp D;have ah:Inv l1 l2 T (n::X):=hi.come hn (fun _ _ _ g hg e=>(F3 (xU _ _ _) hc.1 hc.2 ((vS l2).mpr ⟨hi.fi f0 af,aj⟩) ak ((vS l2).mpr ⟨hg,e⟩)).imp (fun(h:g=f0)=>h▸af) id) (fun h=>by omega) (fun h=>by omega);(have am:xL l2 T (n::X) f:=⟨fi,wK hi I D,by rw[fs];exact List.mem_cons_self ..,zH hF fi (Or.inl (by rw[fs];omega))⟩);obtain⟨r,T2,X2,e2,i2,t2,x2,g2,m2,b2,_,d2,p2⟩:=ih (.fr f (wrap64 (d+1))) T (n::X) w1 ah ⟨am,by omega⟩ (show 3*(l2.length-T.length)+1≤k by omega) m1 (q1.trans he);rw[e1];simp only[Option.bind_some];rw[hf];simp only[Option.bind_some];rw[e2];simp only[Option.bind_some];have hP:∀g∈T2,g∈T∨src l2 g∉X:=fun g hg=>(p2.1 g hg).elim Or.inl (fun h=>Or.inr (h.elim (fun h=>by rw[h,fs];exact I) (fun h I=>h (List.mem_cons_of_mem _ I))));have hH:∀m∈X2,iC l1 m=8∨iC l1 m=9→m∈X∨host l1 m∉X:=fun m G km=>(g2 m G km).elim (fun h=>(List.mem_cons.mp h).elim (fun h=>by subst h;omega) Or.inl) (fun h=>Or.inr fun I=>h (List.mem_cons_of_mem _ I));have hX:∀m∈X,m∈X2:=fun m G=>x2 m (List.mem_cons_of_mem _ G)
    have bad:∀Y:Wk,Y.e≠0→Y.met.length=l1.length→Y.l=r.2.2.l→∃r' T' X',(some (0,0,Y):Option (Int×Int×Wk))=some r'∧Inv l1 l2 T' X'∧(∀f∈T,f∈T')∧(∀n∈X,n∈X')∧(∀n∈X',iC l1 n=8∨iC l1 n=9→n∈X∨host l1 n∉X)∧
        r'.2.2.met.length=l1.length∧r'.2.2.l.length≤4*T'.length∧w.l.length≤r'.2.2.l.length∧T.length≤T'.length∧Post l1 l2 T X T' X' r' (.lp n d):=by
      intro Y h1 h2 h3
      exact⟨_,T2,X2,rfl,i2,t2,hX,hH,h2,by show Y.l.length≤_;rw[h3];exact b2,by show w.l.length≤Y.l.length;rw[h3];omega,d2,hP,fun h=>absurd h h1⟩
    by_cases L:r.2.2.e=0
    · rw[if_neg (by simp[L])]
      obtain⟨aa,ae,⟨e,ag,_,ai⟩,k5⟩:=p2.2 L;unfold Ay;by_cases hb:(outs l2 r.2.1).any (leads l2 r.1 n)=true
      · rw[if_pos hb]
        have h3:r.1=3:=by
          obtain⟨x,_,I⟩:=List.any_eq_true.mp hb;simp only[leads,Bool.and_eq_true,beq_iff_eq]at I;exact I.1.1
        have kt:=k5 h3
        split
        · rename_i f1 f2 g ab ap
          by_cases U:(flw l2 (if f1=g then f2 else f1)).f2=0
          · rw[if_pos U]
            obtain⟨w3,e3,m3,_,l3⟩:=Cz m2 (i:=w.l.length) (by omega) aa;rw[e3];simp only[Option.bind_some];(have Z:(if f1=g then f2 else f1)∈outs l2 r.2.1:=by rw[ab];split<;>simp);generalize(if f1=g then f2 else f1)=on at U Z⊢;have⟨oi,os⟩:=(tY l2).mp Z;have D:=hF.fo r.2.1 aa (Or.inl kt);rw[ab]at D;simp only[List.length_cons,List.length_nil]at D;have al:e∈ins l2 r.2.1:=(vS l2).mpr ⟨i2.fi e ag,ai⟩;have i3:Inv l1 l2 T2 (r.2.1::X2):=i2.come aa (fun _ _ _ g hg eg=>Or.inl (by rw[Eo (by omega) al g hg eg];exact ag)) (fun h=>by omega) (fun h=>by omega);refine⟨_,T2,r.2.1::X2,rfl,i3,t2,fun m G=>List.mem_cons_of_mem _ (hX m G),fun m G km=>(List.mem_cons.mp G).elim (fun h=>by subst h;omega) (fun h=>hH m h km),m3,by show w3.l.length≤_;rw[l3];exact b2,by show w.l.length≤w3.l.length;omega,d2,hP,fun _=>⟨⟨oi,wK i2 ae Z,by rw[os];exact List.mem_cons_self ..,by rw[U];decide⟩,?_⟩⟩;show src l2 on∉X;rw[os];exact fun h=>ae (hX _ h)
          · rw[if_neg U]
            exact bad _ (vw _ (by decide)) m2 rfl
        · exact bad _ (vw _ (by decide)) m2 rfl
      · rw[if_neg hb]
        exact bad _ (vw _ (by decide)) m2 rfl
    · rw[if_pos L]
      exact bad _ L m2 rfl
  · rw[if_neg hc]
    exact⟨_,T,X,rfl,hi,fun _ h=>h,fun _ h=>h,fun m h _=>Or.inl h,G,by show w.l.length≤_;omega,Nat.le_refl _,Nat.le_refl _,fun g hg=>Or.inl hg,fun h=>absurd h (vw _ (by decide))⟩
end
section
variable {l1:List S38} {l2:List S40}
theorem BM(hF:wG l1 l2){k:Nat}(ih:zy l1 l2 k)(n d:Int)(ha:∀f∈outs l2 n,(flw l2 f).f2≠3):∀(fs:List Int) (first:Bool) (j:Int) (w:Wk) (T X E:List Int),
    Inv l1 l2 T X→n∈X→(∀f∈fs,f∈outs l2 n∧f∉T)→fs.Nodup→E.Nodup→(∀e∈E,e∈T∧dst l2 e=j)→(first=true→E=[])→(E≠[]→inL l1 j∧j∉X)→
    w.l.length≤4*T.length→3*(l2.length-T.length)+1≤k→w.met.length=l1.length→w.e=0→
    ∃b U X',branch (wk l1 l2 k) d fs first j w=some b∧Inv l1 l2 U X'∧(∀f∈T,f∈U)∧(∀m∈X,m∈X')∧(∀m∈X',iC l1 m=8∨iC l1 m=9→m∈X∨host l1 m∉X)∧(∀g∈U,g∈T∨src l2 g=n∨src l2 g∉X)∧
      b.2.2.met.length=l1.length∧b.2.2.l.length≤4*U.length∧w.l.length≤b.2.2.l.length∧T.length≤U.length∧(b.1=true→b.2.2.e≠0)∧
      (b.1=false→b.2.2.e=0∧∃Z:List Int,Z.Nodup∧Z.length=E.length+fs.length∧(∀e∈Z,e∈U∧dst l2 e=b.2.1)∧(Z≠[]→inL l1 b.2.1∧b.2.1∉X'))
  |[],first,j,w,T,X,E,hi,hn,hf,hnd,hE,hEt,hfst,hj,hl,hk,L,he=>
    ⟨_,T,X,rfl,hi,fun _ h=>h,fun _ h=>h,fun m h _=>Or.inl h,fun g h=>Or.inl h,L,hl,Nat.le_refl _,Nat.le_refl _,fun h=>absurd h (by simp),fun _=>⟨he,E,hE,by simp,hEt,hj⟩⟩
  |f::fs,first,j,w,T,X,E,hi,hn,hf,hnd,hE,hEt,hfst,hj,hl,hk,L,he=>by
    have an:=Ap hF hi
    have ao:=hF.n2
    obtain⟨ab,ag⟩:=List.nodup_cons.mp hnd
    obtain⟨aa,al⟩:=hf f (List.mem_cons_self ..)
    have⟨fi,fs'⟩:=(tY l2).mp aa
    obtain⟨w1,e1,m1,q1,_⟩:=yS L (by omega) 8 f 0 (wrap64 (d+1)) (fun h=>absurd rfl h) (Or.inl rfl)
    have ah:xL l2 T X f:=⟨fi,al,by rw[fs'];exact hn,ha f aa⟩
    obtain⟨r,T2,X2,e2,i2,t2,Y,g2,m2,b2,_,d2,p2⟩:=ih (.fr f (wrap64 (d+2))) T X w1 hi ⟨ah,by omega⟩ hk m1 (q1.trans he)
    have hP:∀g∈T2,g∈T∨src l2 g=n∨src l2 g∉X:=fun g G=>(p2.1 g G).elim Or.inl (fun h=>Or.inr (h.imp (fun h=>by rw[h,fs']) id))
    unfold branch
    rw[e1]
    simp only[Option.bind_some]
    rw[e2]
    simp only[Option.bind_some]
    by_cases D:r.2.2.e=0
    · rw[if_neg (by simp[D])]
      obtain⟨aj,ae,⟨e,af,am,ak⟩,_⟩:=p2.2 D;by_cases hc:r.1=2∧(first=true∨r.2.1=j)
      · rw[if_pos hc]
        have ai:∀x∈E,dst l2 x=r.2.1:=fun x I=>by
          rcases hc.2 with h|h
          · rw[hfst h]at I;cases I
          · rw[h];exact(hEt x I).2
        obtain⟨b,T3,X3,e3,i3,t3,x3,g3,p3,m3,b3,_,_,s3,u3⟩:=BM hF ih n d ha fs false r.2.1 r.2.2 T2 X2 (e::E) i2 (Y n hn)
          (fun g G=>⟨(hf g (List.mem_cons_of_mem _ G)).1,fun h=>by
            rcases p2.1 g h with h|h|h
            · exact(hf g (List.mem_cons_of_mem _ G)).2 h
            · exact ab (h▸G)
            · exact h (((tY l2).mp (hf g (List.mem_cons_of_mem _ G)).1).2▸hn)⟩)
          ag (List.nodup_cons.mpr ⟨fun h=>am (hEt e h).1,hE⟩) (fun x I=>(List.mem_cons.mp I).elim (fun h=>h▸⟨af,ak⟩) (fun h=>⟨t2 x (hEt x h).1,ai x h⟩)) (fun h=>absurd h (by simp)) (fun _=>⟨aj,ae⟩) b2 (by omega) m2 D
        refine⟨b,T3,X3,e3,i3,fun g G=>t3 g (t2 g G),fun m L=>x3 m (Y m L),fun m L km=>(g3 m L km).elim (fun h=>g2 m h km) (fun h=>Or.inr fun I=>h (Y _ I)),fun g G=>(p3 g G).elim (fun h=>hP g h) (fun h=>Or.inr (h.imp id (fun h I=>h (Y _ I)))),m3,b3,by omega,by omega,s3,fun h=>?_⟩;obtain⟨a1,Z,a2,a3,a4,a5⟩:=u3 h;exact⟨a1,Z,a2,by rw[a3];simp only[List.length_cons];omega,a4,a5⟩
      · rw[if_neg hc]
        exact⟨_,T2,X2,rfl,i2,t2,Y,g2,hP,m2,b2,by show w.l.length≤r.2.2.l.length;omega,d2,fun _=>vw _ (by decide),fun h=>absurd h (by simp)⟩
    · rw[if_pos D]
      exact⟨_,T2,X2,rfl,i2,t2,Y,g2,hP,m2,b2,by show w.l.length≤r.2.2.l.length;omega,d2,fun _=>D,fun h=>absurd h (by simp)⟩
theorem JO(Y:wG l1 l2){k:Nat}(ih:zy l1 l2 k)(n d:Int)(T X:List Int)(w:Wk)(hi:Inv l1 l2 T X)(hp:Pre l1 l2 T X w (.blk n d))(hk:need (l2.length-T.length) (.blk n d)≤k+1)(D:w.met.length=l1.length)(he:w.e=0):
    Did l1 l2 (k+1) (.blk n d) T X w:=by
  obtain⟨U,hn,kn,_,af,aj,_⟩:=hp;replace hk:3*(l2.length-T.length)+3≤k+1:=hk;have al:=Ap Y hi;have am:=Y.n2;unfold Did wk
  split
  · exact⟨_,T,X,rfl,hi,fun _ h=>h,fun _ h=>h,fun m h _=>Or.inl h,D,by show w.l.length≤_;omega,Nat.le_refl _,Nat.le_refl _,fun g G=>Or.inl G,fun h=>absurd h (vw _ (by decide))⟩
  obtain⟨w1,e1,m1,q1,_⟩:=yS D (by omega) (if iC l1 n=5 then 5 else 6) n 0 d (fun _=>hn) (Or.inl rfl);have ag:Inv l1 l2 T (n::X):=hi.come hn (fun _ _ _ g G e=>Or.inl (aj g G e)) (fun h=>by omega) (fun h=>by omega)
  have ak:∀f∈outs l2 n,(flw l2 f).f2≠3:=fun f L e=>by
    have⟨fi,fs⟩:=(tY l2).mp L
    have h5:=(Y.fk f fi (by rw[e];decide)).1
    rw[fs]at h5
    exact af ⟨h5,List.length_pos_of_mem (List.mem_filter.mpr ⟨L,by simpa using e⟩)⟩
  obtain⟨b,T3,Z,e3,i3,t3,x3,g3,p3,m3,b3,_,d3,s3,u3⟩:=BM Y ih n d ak (outs l2 n) true 0 w1 T (n::X) [] ag (List.mem_cons_self ..) (fun f L=>⟨L,wK hi U L⟩) (xU _ _ _) List.nodup_nil (fun e h=>by cases h) (fun _=>rfl) (fun h=>absurd rfl h) (by omega) (by omega) m1 (q1.trans he);rw[e1];simp only[Option.bind_some];rw[e3];simp only[Option.bind_some];have hP:∀g∈T3,g∈T∨src l2 g∉X:=fun g G=>(p3 g G).imp id (fun h=>h.elim (fun h=>by rw[h];exact U) (fun h U=>h (List.mem_cons_of_mem _ U)));have hH:∀m∈Z,iC l1 m=8∨iC l1 m=9→m∈X∨host l1 m∉X:=fun m D km=>(g3 m D km).elim (fun h=>(List.mem_cons.mp h).elim (fun h=>by subst h;omega) Or.inl) (fun h=>Or.inr fun U=>h (List.mem_cons_of_mem _ U));have hX:∀m∈X,m∈Z:=fun m D=>x3 m (List.mem_cons_of_mem _ D);by_cases hb:b.1=true
  · rw[if_pos hb]
    exact⟨_,T3,Z,rfl,i3,t3,hX,hH,m3,b3,by show w.l.length≤b.2.2.l.length;omega,d3,hP,fun h=>absurd h (s3 hb)⟩
  rw[if_neg hb];obtain⟨_,_,ah,ab,I,ai⟩:=u3 (by simpa using hb);simp only[List.length_nil,Nat.zero_add]at ab;obtain⟨ij,nj⟩:=ai (by rintro rfl;simp only[List.length_nil]at ab;omega)
  split
  · rename_i hc
    have an:=Y.fo b.2.1 ij (by rw[hc.1];exact kn);obtain⟨g,G,aa⟩:=AP (l:=outs l2 b.2.1) (by omega);have⟨gi,gs⟩:=(tY l2).mp aa;obtain⟨w4,e4,m4,_,l4⟩:=Cz m3 (i:=w.l.length) (by omega) ij;rw[e4];simp only[Option.bind_some];rw[G];have ae:∀f,inF l2 f→dst l2 f=b.2.1→f∈T3:=fun f L e=>(I f (H7 ah (B:=ins l2 b.2.1) (fun a ha=>(vS l2).mpr ⟨i3.fi a (I a ha).1,(I a ha).2⟩) (by omega) f ((vS l2).mpr ⟨L,e⟩))).1;have i4:Inv l1 l2 T3 (b.2.1::Z):=i3.come ij (fun _ _ _ g G eg=>Or.inl (ae g G eg)) (fun h=>by rw[hc.1]at h;omega) (fun h=>by rw[hc.1]at h;omega);refine⟨_,T3,b.2.1::Z,rfl,i4,t3,fun m D=>List.mem_cons_of_mem _ (hX m D),fun m D km=>(List.mem_cons.mp D).elim (fun h=>by subst h;rw[hc.1]at km;omega) (fun h=>hH m h km),m4,by show w4.l.length≤_;rw[l4];exact b3,by show w.l.length≤w4.l.length;omega,d3,hP,fun _=>⟨⟨gi,wK i3 nj aa,by rw[gs];exact List.mem_cons_self ..,zH Y gi (Or.inl (by rw[gs];omega))⟩,?_⟩⟩;show src l2 g∉X;rw[gs];exact fun h=>nj (hX _ h)
  · exact⟨_,T3,Z,rfl,i3,t3,hX,hH,m3,b3,by show w.l.length≤b.2.2.l.length;omega,d3,hP,fun h=>absurd h (vw _ (by decide))⟩
end
section
variable {l1:List S38} {l2:List S40}
theorem zP(hF:wG l1 l2){k:Nat}(ih:zy l1 l2 k)(n d:Int):∀(ts:List Int) (s:Nat) (j:Int) (w:Wk) (T X E:List Int),
    Inv l1 l2 T X→n∈X→(∀t∈ts,t∈timers l1 n∧(w.e=0→t∉X))→ts.Nodup→E.Nodup→(∀e∈E,e∈T∧dst l2 e=j)→E.length=s→
    w.l.length≤4*T.length→3*(l2.length-T.length)+2≤k→w.met.length=l1.length→
    ∃b T' X',beside (wk l1 l2 k) l1 l2 d ts s j w=some b∧Inv l1 l2 T' X'∧(∀f∈T,f∈T')∧(∀m∈X,m∈X')∧(∀m∈X',iC l1 m=8∨iC l1 m=9→m∈X∨host l1 m=n∨host l1 m∉X)∧(∀g∈T',g∈T∨src l2 g∉X)∧
      b.2.2.2.met.length=l1.length∧b.2.2.2.l.length≤4*T'.length∧w.l.length≤b.2.2.2.l.length∧T.length≤T'.length∧(b.1=true→b.2.2.2.e≠0)∧
      (b.1=false→b.2.2.2.e=0→∃E':List Int,E'.Nodup∧E'.length=b.2.1∧(∀e∈E',e∈T'∧dst l2 e=b.2.2.1))
  |[],s,j,w,T,X,E,hi,hn,ht,hnd,hE,hEt,hs,hl,hk,G=>
    ⟨_,T,X,rfl,hi,fun _ h=>h,fun _ h=>h,fun m h _=>Or.inl h,fun g h=>Or.inl h,G,hl,Nat.le_refl _,Nat.le_refl _,fun h=>absurd h (by simp),fun _ _=>⟨E,hE,hs,hEt⟩⟩
  |t::ts,s,j,w,T,X,E,hi,hn,ht,hnd,hE,hEt,hs,hl,hk,G=>by
    have aa:l1.length≤1000000:=by have:=hF.n1;omega
    have ao:=Ap hF hi
    have ap:=hF.n2
    unfold beside
    by_cases Y:w.e≠0
    · rw[if_pos Y]
      exact⟨_,T,X,rfl,hi,fun _ h=>h,fun _ h=>h,fun m h _=>Or.inl h,fun g h=>Or.inl h,G,hl,Nat.le_refl _,Nat.le_refl _,fun _=>Y,fun h=>absurd h (by simp)⟩
    have he:w.e=0:=by simpa using Y
    rw[if_neg Y]
    obtain⟨aj,ab⟩:=List.nodup_cons.mp hnd
    obtain⟨ag,L⟩:=ht t (List.mem_cons_self ..)
    have L:=L he
    obtain⟨ti,n1,th,tk⟩:=(yP l1 aa).mp ag
    have ae:Inv l1 l2 T (t::X):=hi.come ti (fun _ a b=>by omega) (fun _=>by rw[th];exact hn) (fun h=>by omega)
    have left:∀{U:List Int} {w2:Wk},(∀m∈U,iC l1 m=8∨iC l1 m=9→m∈t::X∨host l1 m∉t::X)→∀u∈ts,u∈timers l1 n∧(w2.e=0→u∉U):=by
      intro U w2 g u hu;obtain⟨um,uX⟩:=ht u (List.mem_cons_of_mem _ hu);obtain⟨_,_,uh,uk⟩:=(yP l1 aa).mp um;refine⟨um,fun _ h=>?_⟩;rcases g u h uk with h|h
      · rcases List.mem_cons.mp h with h|h
        · exact aj (h▸hu)
        · exact uX he h
      · rw[uh]at h
        exact h (List.mem_cons_of_mem _ hn)
    by_cases k9:iC l1 t=9
    · rw[if_pos k9]
      obtain⟨w1,e1,m1,q1,ai⟩:=yS G (by omega) 10 t 0 (wrap64 (d+1)) (fun _=>ti) (Or.inl rfl)
      obtain⟨r,T2,U,e2,i2,t2,I,g2,m2,b2,c2,d2,p2⟩:=ih (.sc t (wrap64 (d+2))) T (t::X) w1 ae
        ⟨Or.inr ⟨List.mem_cons_self ..,ti,Or.inr k9⟩,fun a ka ia sa h=>(List.mem_cons.mp h).elim (fun h=>by subst h;omega) (fun h=>(hi.sc a h ka).elim (fun h=>by have:=ti.1;omega) (fun h=>L (sa▸h))),by omega⟩ hk m1 (q1.trans he)
      rw[e1];simp only[Option.bind_some];rw[e2];simp only[Option.bind_some];obtain⟨b,T3,X3,e3,i3,t3,x3,g3,p3,m3,b3,c3,d3,s3,u3⟩:=zP hF ih n d ts s j r.2.2 T2 U E i2 (I n (List.mem_cons_of_mem _ hn)) (left g2) ab hE (fun e h=>⟨t2 e (hEt e h).1,(hEt e h).2⟩) hs b2 (by omega) m2;refine⟨b,T3,X3,e3,i3,fun g hg=>t3 g (t2 g hg),fun m G=>x3 m (I m (List.mem_cons_of_mem _ G)),fun m G km=>?_,fun g hg=>?_,m3,b3,by omega,by omega,s3,u3⟩
      · rcases g3 m G km with h|h|h
        · rcases g2 m h km with h|h
          · exact(List.mem_cons.mp h).elim (fun h=>Or.inr (Or.inl (by rw[h,th]))) Or.inl
          · exact Or.inr (Or.inr fun D=>h (List.mem_cons_of_mem _ D))
        · exact Or.inr (Or.inl h)
        · exact Or.inr (Or.inr fun D=>h (I _ (List.mem_cons_of_mem _ D)))
      · rcases p3 g hg with h|h
        · exact(p2 g h).imp id (fun h D=>h (List.mem_cons_of_mem _ D))
        · exact Or.inr fun D=>h (I _ (List.mem_cons_of_mem _ D))
    · rw[if_neg k9]
      have k8:iC l1 t=8:=tk.resolve_right k9;have ho:=hF.o1 t ti (Or.inr (Or.inr (Or.inr (Or.inr k8))));obtain⟨f,hf,af⟩:=AP ho;have⟨fi,fs⟩:=(tY l2).mp af;obtain⟨w1,e1,m1,q1,ai⟩:=yS G (by omega) 9 t 0 (wrap64 (d+1)) (fun _=>ti) (Or.inl rfl);(have al:xL l2 T (t::X) f:=⟨fi,wK hi L af,by rw[fs];exact List.mem_cons_self ..,zH hF fi (Or.inl (by rw[fs];omega))⟩);obtain⟨r,T2,U,e2,i2,t2,I,g2,m2,b2,c2,d2,p2⟩:=ih (.fr f (wrap64 (d+2))) T (t::X) w1 ae ⟨al,by omega⟩ (show 3*(l2.length-T.length)+1≤k by omega) m1 (q1.trans he);rw[e1];simp only[Option.bind_some];rw[hf];simp only[Option.bind_some];rw[e2];simp only[Option.bind_some];have hP:∀g∈T2,g∈T∨src l2 g∉X:=fun g hg=>(p2.1 g hg).elim Or.inl (fun h=>Or.inr (h.elim (fun h=>by rw[h,fs];exact L) (fun h D=>h (List.mem_cons_of_mem _ D))));have hH:∀m∈U,iC l1 m=8∨iC l1 m=9→m∈X∨host l1 m=n∨host l1 m∉X:=fun m G km=>(g2 m G km).elim (fun h=>(List.mem_cons.mp h).elim (fun h=>Or.inr (Or.inl (by rw[h,th]))) Or.inl) (fun h=>Or.inr (Or.inr fun D=>h (List.mem_cons_of_mem _ D)));by_cases Z:r.2.2.e=0
      · rw[if_neg (by simp[Z])]
        obtain⟨_,_,⟨e,ak,ah,an⟩,_⟩:=p2.2 Z;by_cases hc:r.1=2∧(s=0∨r.2.1=j)
        · rw[if_pos hc]
          have am:∀x∈E,dst l2 x=r.2.1:=fun x D=>by
            rcases hc.2 with h|h
            · have:=List.length_pos_of_mem D;omega
            · rw[h];exact(hEt x D).2
          obtain⟨b,T3,X3,e3,i3,t3,x3,g3,p3,m3,b3,c3,d3,s3,u3⟩:=zP hF ih n d ts (s+1) r.2.1 r.2.2 T2 U (e::E) i2 (I n (List.mem_cons_of_mem _ hn)) (left g2) ab
            (List.nodup_cons.mpr ⟨fun h=>ah (hEt e h).1,hE⟩) (fun x D=>(List.mem_cons.mp D).elim (fun h=>h▸⟨ak,an⟩) (fun h=>⟨t2 x (hEt x h).1,am x h⟩)) (by simp only[List.length_cons];omega) b2 (by omega) m2
          refine⟨b,T3,X3,e3,i3,fun g hg=>t3 g (t2 g hg),fun m G=>x3 m (I m (List.mem_cons_of_mem _ G)),fun m G km=>?_,fun g hg=>?_,m3,b3,by omega,by omega,s3,u3⟩
          · rcases g3 m G km with h|h|h
            · exact hH m h km
            · exact Or.inr (Or.inl h)
            · exact Or.inr (Or.inr fun D=>h (I _ (List.mem_cons_of_mem _ D)))
          · rcases p3 g hg with h|h
            · exact hP g h
            · exact Or.inr fun D=>h (I _ (List.mem_cons_of_mem _ D))
        · rw[if_neg hc]
          exact⟨_,T2,U,rfl,i2,t2,fun m G=>I m (List.mem_cons_of_mem _ G),hH,hP,m2,b2,by show w.l.length≤r.2.2.l.length;omega,d2,fun _=>vw _ (by decide),fun h=>absurd h (by simp)⟩
      · rw[if_pos Z]
        exact⟨_,T2,U,rfl,i2,t2,fun m G=>I m (List.mem_cons_of_mem _ G),hH,hP,m2,b2,by show w.l.length≤r.2.2.l.length;omega,d2,fun _=>Z,fun h=>absurd h (by simp)⟩
theorem Jl(L:wG l1 l2){k:Nat}(ih:zy l1 l2 k)(n d:Int)(T X:List Int)(w:Wk)(hi:Inv l1 l2 T X)(hp:Pre l1 l2 T X w (.act n d))(hk:need (l2.length-T.length) (.act n d)≤k+1)(I:w.met.length=l1.length)(he:w.e=0):
    Did l1 l2 (k+1) (.act n d) T X w:=by
  obtain⟨G,hn,kn,ap,_⟩:=hp;replace hk:3*(l2.length-T.length)+3≤k+1:=hk;have ak:l1.length≤1000000:=by have:=L.n1;omega
  have aq:=Ap L hi;have ar:=L.n2;have ah:Inv l1 l2 T (n::X):=hi.come hn (fun _ _ _ g D e=>Or.inl (ap g D e)) (fun h=>by omega) (fun h=>by omega);obtain⟨w1,e1,m1,q1,_⟩:=yS I (by omega) (Fg (iC l1 n)) n 0 d (fun _=>hn) (Or.inl rfl);obtain⟨f,hf,ab⟩:=AP (L.o1 n hn (by omega));have⟨fi,fs⟩:=(tY l2).mp ab
  have first:∃q U Z,(if iC l1 n=7 then(wk l1 l2 k (.sc n (wrap64 (d+1))) w1).bind fun r=>
          if r.2.2.e=0∧0<(timers l1 n).length∧wW r.2.2.l w.l.length=false then some (true,rR r.2.2 19)else some (false,r.2.2)
        else some (false,w1))=some q∧Inv l1 l2 U Z∧(∀f∈T,f∈U)∧(∀m∈n::X,m∈Z)∧(∀m∈Z,iC l1 m=8∨iC l1 m=9→m∈n::X∨host l1 m∉n::X)∧(∀g∈U,g∈T∨src l2 g∉n::X)∧
        q.2.met.length=l1.length∧q.2.l.length≤4*U.length∧w1.l.length≤q.2.l.length∧T.length≤U.length∧(q.1=true→q.2.e≠0):=by
    by_cases k7:iC l1 n=7
    · rw[if_pos k7]
      obtain⟨r,U,Z,e2,i2,t2,Y,g2,m2,b2,c2,d2,p2⟩:=ih (.sc n (wrap64 (d+1))) T (n::X) w1 ah
        ⟨Or.inr ⟨List.mem_cons_self ..,hn,Or.inl k7⟩,fun a ka ia sa h=>(List.mem_cons.mp h).elim (fun h=>by subst h;omega) (fun h=>(hi.sc a h ka).elim (fun h=>by have:=hn.1;omega) (fun h=>G (sa▸h))),by omega⟩ (show 3*(l2.length-T.length)+2≤k by omega) m1 (q1.trans he)
      rw[e2];simp only[Option.bind_some]
      split
      · exact⟨_,U,Z,rfl,i2,t2,Y,g2,p2,m2,b2,Nat.le_trans (Nat.le_add_right _ _) c2,d2,fun _=>vw _ (by decide)⟩
      · exact⟨_,U,Z,rfl,i2,t2,Y,g2,p2,m2,b2,Nat.le_trans (Nat.le_add_right _ _) c2,d2,fun h=>absurd h (by simp)⟩
    · rw[if_neg k7]
      exact⟨_,T,n::X,rfl,ah,fun _ h=>h,fun _ h=>h,fun m h _=>Or.inl h,fun g h=>Or.inl h,m1,by show w1.l.length≤_;omega,Nat.le_refl _,Nat.le_refl _,fun h=>absurd h (by simp)⟩
  obtain⟨q,U,Z,e2,i2,t2,Y,g2,p2,m2,b2,c2,d2,s2⟩:=first
  unfold Did wk;rw[if_pos kn,e1];simp only[Option.bind_some];rw[e2];simp only[Option.bind_some];by_cases hq:q.1=true
  · rw[if_pos hq]
    refine⟨_,U,Z,rfl,i2,t2,fun m I=>Y m (List.mem_cons_of_mem _ I),fun m I km=>(g2 m I km).elim (fun h=>(List.mem_cons.mp h).elim (fun h=>by subst h;omega) Or.inl) (fun h=>Or.inr fun G=>h (List.mem_cons_of_mem _ G)),m2,b2,by show w.l.length≤q.2.l.length;omega,d2,fun g D=>(p2 g D).imp id (fun h G=>h (List.mem_cons_of_mem _ G)),fun h=>absurd h (s2 hq)⟩
  rw[if_neg hq]
  have am:∀t∈timers l1 n,t∈timers l1 n∧(q.2.e=0→t∉Z):=fun t ht=>⟨ht,fun _ h=>by
    obtain⟨ti,_,th,tk⟩:=(yP l1 ak).mp ht
    rcases g2 t h tk with h|h
    · rcases List.mem_cons.mp h with h|h
      · subst h;omega
      · exact G (th▸hi.tm t h tk)
    · rw[th]at h
      exact h (List.mem_cons_self ..)⟩
  obtain⟨b,T3,X3,e3,i3,t3,x3,g3,p3,m3,b3,_,_,s3,u3⟩:=zP L ih n d (timers l1 n) 0 0 q.2 U Z [] i2 (Y n (List.mem_cons_self ..)) am (xU _ _ _) List.nodup_nil (fun e h=>by cases h) rfl b2 (by omega) m2;rw[e3];simp only[Option.bind_some];unfold xO;have hX:∀m∈X,m∈X3:=fun m I=>x3 m (Y m (List.mem_cons_of_mem _ I));have hP:∀g∈T3,g∈T∨src l2 g∉X:=fun g D=>(p3 g D).elim (fun h=>(p2 g h).imp id (fun h G=>h (List.mem_cons_of_mem _ G))) (fun h=>Or.inr fun G=>h (Y _ (List.mem_cons_of_mem _ G)))
  have hH:∀m∈X3,iC l1 m=8∨iC l1 m=9→m∈X∨host l1 m∉X:=fun m I km=>by
    rcases g3 m I km with h|h|h
    · exact(g2 m h km).elim (fun h=>(List.mem_cons.mp h).elim (fun h=>by subst h;omega) Or.inl) (fun h=>Or.inr fun G=>h (List.mem_cons_of_mem _ G))
    · exact Or.inr (by rw[h];exact G)
    · exact Or.inr fun G=>h (Y _ (List.mem_cons_of_mem _ G))
  by_cases hb:b.1=true
  · rw[if_pos hb]
    exact⟨_,T3,X3,rfl,i3,fun g D=>t3 g (t2 g D),hX,hH,m3,b3,by show w.l.length≤b.2.2.2.l.length;omega,by omega,hP,fun h=>absurd h (s3 hb)⟩
  rw[if_neg hb,hf];simp only[Option.bind_some]
  have aj:f∉T3:=fun h=>by
    rcases p3 f h with h|h
    · rcases p2 f h with h|h
      · exact wK hi G ab h
      · rw[fs]at h;exact h (List.mem_cons_self ..)
    · rw[fs]at h;exact h (Y n (List.mem_cons_self ..))
  have af:xL l2 T3 X3 f:=⟨fi,aj,by rw[fs];exact x3 n (Y n (List.mem_cons_self ..)),zH L fi (Or.inl (by rw[fs,L.o1 n hn (by omega)];exact Nat.le_refl _))⟩
  by_cases hc:b.2.2.2.e≠0∨b.2.1=0
  · rw[if_pos hc]
    exact⟨_,T3,X3,rfl,i3,fun g D=>t3 g (t2 g D),hX,hH,m3,b3,by show w.l.length≤b.2.2.2.l.length;omega,by omega,hP,fun _=>⟨af,by show src l2 f∉X;rw[fs];exact G⟩⟩
  rw[if_neg hc,if_pos fi];have ao:b.2.2.2.e=0:=by simpa using fun h=>hc (Or.inl h)
  obtain⟨E,al,_,aa⟩:=u3 (by simpa using hb) ao
  split
  · rename_i hj
    have ae:dst l2 f=b.2.2.1:=hj.1;have ij:inL l1 b.2.2.1:=ae▸(L.fl f fi).2.1;have nj:b.2.2.1∉X3:=ae▸Inv.new L i3 af;have ab:=L.fo b.2.2.1 ij (Or.inl hj.2.1);obtain⟨g,D,ag⟩:=AP (l:=outs l2 b.2.2.1) (by omega);have⟨gi,gs⟩:=(tY l2).mp ag;obtain⟨w4,e4,m4,_,l4⟩:=Cz m3 (i:=w.l.length) (by omega) ij;rw[e4];simp only[Option.bind_some];rw[D];have i4:=i3.go af
    have ai:∀x,inF l2 x→dst l2 x=b.2.2.1→x∈f::T3:=fun x an e=>by
      have:=H7 (A:=f::E) (B:=ins l2 b.2.2.1) (List.nodup_cons.mpr ⟨fun h=>aj (aa f h).1,al⟩) (fun a ha=>(vS l2).mpr ((List.mem_cons.mp ha).elim (fun h=>h▸⟨fi,ae⟩) (fun h=>⟨i3.fi a (aa a h).1,(aa a h).2⟩))) (by simp only[List.length_cons];omega) x ((vS l2).mpr ⟨an,e⟩)
      exact(List.mem_cons.mp this).elim (fun h=>h▸List.mem_cons_self ..) (fun h=>List.mem_cons_of_mem _ (aa x h).1)
    have i5:Inv l1 l2 (f::T3) (b.2.2.1::X3):=i4.come ij (fun _ _ _ g D eg=>Or.inl (ai g D eg)) (fun h=>by omega) (fun h=>by omega);refine⟨_,f::T3,b.2.2.1::X3,rfl,i5,fun g D=>List.mem_cons_of_mem _ (t3 g (t2 g D)),fun m I=>List.mem_cons_of_mem _ (hX m I),fun m I km=>(List.mem_cons.mp I).elim (fun h=>by subst h;omega) (fun h=>hH m h km),m4,by show w4.l.length≤_;rw[l4];simp only[List.length_cons];omega,by show w.l.length≤w4.l.length;omega,by simp only[List.length_cons];omega,fun g D=>(List.mem_cons.mp D).elim (fun h=>Or.inr (by rw[h,fs];exact G)) (hP g),fun _=>⟨⟨gi,wK i4 nj ag,by rw[gs];exact List.mem_cons_self ..,zH L gi (Or.inl (by rw[gs];omega))⟩,?_⟩⟩;show src l2 g∉X;rw[gs];exact fun h=>nj (hX _ h)
  · exact⟨_,T3,X3,rfl,i3,fun g D=>t3 g (t2 g D),hX,hH,m3,b3,by show w.l.length≤b.2.2.2.l.length;omega,by omega,hP,fun h=>absurd h (vw _ (by decide))⟩
theorem IU(D:wG l1 l2):∀k,zy l1 l2 k
  |0=>fun U T X w _ _ hk _ _=>by cases U<;>exact absurd hk (Nat.not_succ_le_zero _)
  |k+1=>fun U T X w hi I hk L G=>by
    have ih:=IU D k
    cases U with
    |fr f d=>exact Lf D ih f d T X w hi I hk L G
    |act n d=>exact Jl D ih n d T X w hi I hk L G
    |blk n d=>exact JO D ih n d T X w hi I hk L G
    |lp n d=>exact K8 D ih n d T X w hi I hk L G
    |sc n d=>exact KN D ih n d T X w hi I hk L G
theorem KI(D:wG l1 l2)(k:Nat)(hk:500≤k):∃r,wk l1 l2 k (.sc 0 0) ⟨[],List.replicate l1.length false,0⟩=some r∧r.2.2.met.length=l1.length∧r.2.2.l.length≤1000∧0<r.2.2.l.length:=by
  have G:=D.n2
  obtain⟨r,_,_,L,I,_,_,_,m2,_,c2,_,_⟩:=IU D k (.sc 0 0) [] [] ⟨[],List.replicate l1.length false,0⟩ ⟨List.nodup_nil,fun _ h=>(by cases h),fun _ h=>(by cases h),fun _ h=>(by cases h),fun _ h=>(by cases h),fun _ h=>(by cases h),fun _ h=>(by cases h)⟩
    ⟨Or.inl rfl,fun a _ _ _ h=>(by cases h),Nat.zero_le _⟩ (show 3*(l2.length-0)+2≤k by omega) (by simp) rfl
  have:=Ap D I;have c3:0+1≤r.2.2.l.length:=c2;exact⟨r,L,m2,by omega,by omega⟩
end
end Go.Proofs.Ng
