/- The reference's steps and widths of a part come to an end. -/
import Derived.Test.YtcaegaljhogbjaaGreatDoorRegFrom
import Derived.Test.YtcaegaljhogbjaaGreatDoorRx3
import Derived.Test.YtcaegaljhogbjaaGreatDoorRx4
set_option linter.unusedSimpArgs false
set_option linter.unusedVariables false
namespace Go.Proofs.Ng
open RowKit Lib Go.Sort PW PL PM Y Gd Go.Proofs.Gr R
theorem Hy{α:Type}(p:α→Bool):∀(l:List α) (i:Nat) (f:Int),f∈ix p i l→(i:Int)+1≤f∧f≤(i:Int)+l.length
  |[],i,f,h=>by cases h
  |x::l,i,f,h=>by
    unfold ix at h
    have D:f∈ix p (i+1) l→(i:Int)+1≤f∧f≤(i:Int)+(x::l).length:=fun h=>by
      have:=Hy p l (i+1) f h
      simp only[List.length_cons]
      omega
    split at h
    · rcases List.mem_cons.mp h with rfl|h
      · simp only[List.length_cons];omega
      · exact D h
    · exact D h
theorem CX{l2:List S40}{n:Int}:∀f∈outs l2 n,inF l2 f:=fun f h=>by have:=Hy _ _ _ _ h;exact⟨by omega,by omega⟩
theorem Cr{α:Type}(p:α→Bool):∀(l:List α) (i:Nat),(ix p i l).length≤l.length
  |[],i=>Nat.le_refl _
  |x::l,i=>by
    unfold ix
    have:=Cr p l (i+1)
    split<;>simp only[List.length_cons]<;>omega
theorem Cx{l:List uw}(hl:l.length≤100000){i:Int}(I:0≤i)(h1:i<(l.length:Int)):∀(m q:Nat) (xs:List Int) (k:Nat),q+m=l.length→2*m+2≤k→xs.length≤q→
    ∃ys,iQ.l0 k l i xs (q:Int)=some ys∧ys.length≤xs.length+m∧∀y∈ys,y∈xs∨((q:Int)≤y∧y<(l.length:Int))
  |0,q,xs,k,hq,hk,hx=>by
    obtain⟨k,rfl⟩:∃m,k=m+2:=⟨k-2,by omega⟩
    rw[iQ.l0,if_neg (by omega),iQ.j2,if_neg (by decide)]
    exact⟨xs,rfl,by omega,fun y h=>Or.inl h⟩
  |m+1,q,xs,k,hq,hk,hx=>by
    obtain⟨k,rfl⟩:∃m,k=m+2:=⟨k-2,by omega⟩
    rw[iQ.l0,if_pos (by omega),if_pos (by omega),if_pos I,if_pos h1,iQ.j2]
    have D:∃ys,some xs=some ys∧ys.length≤xs.length+(m+1)∧∀y∈ys,y∈xs∨((q:Int)≤y∧y<(l.length:Int)):=⟨xs,rfl,by omega,fun y h=>Or.inl h⟩
    split
    · rw[if_pos (by omega),if_pos (by omega),uM q (by omega)]
      split
      · rw[if_pos (by omega)]
        obtain⟨ys,e,h2,L⟩:=Cx hl I h1 m (q+1) (xs++[(q:Int)]) k (by omega) (by omega) (by simp;omega);refine⟨ys,e,by simp at h2;omega,fun y G=>?_⟩;rcases L y G with h|h
        · rcases List.mem_append.mp h with h|h
          · exact Or.inl h
          · rw[List.mem_singleton.mp h];exact Or.inr ⟨Int.le_refl _,by omega⟩
        · exact Or.inr ⟨by omega,h.2⟩
      · obtain⟨ys,e,h2,L⟩:=Cx hl I h1 m (q+1) xs k (by omega) (by omega) (by omega)
        exact⟨ys,e,by omega,fun y G=>(L y G).imp id (fun h=>⟨by omega,h.2⟩)⟩
    · exact D
theorem DJ{l:List uw}(hl:l.length≤100000){i:Int}(G:0≤i)(h1:i<(l.length:Int))(k:Nat)(hk:2*l.length+4≤k):
    ∃ys,iQ.f k l i=some ys∧ys.length≤l.length∧∀y∈ys,i<y∧y<(l.length:Int):=by
  obtain⟨q,rfl⟩:∃q:Nat,i=q:=⟨i.toNat,by omega⟩
  obtain⟨k,rfl⟩:∃m,k=m+1:=⟨k-1,by omega⟩
  unfold iQ.f;rw[if_neg (by omega),iQ.j0,if_neg (by simp;omega),uM q (by omega)];obtain⟨ys,e,h2,I⟩:=Cx hl (i:=(q:Int)) G h1 (l.length-(q+1)) (q+1) [] k (by omega) (by omega) (Nat.zero_le _);refine⟨ys,e,by simp at h2;omega,fun y D=>?_⟩;rcases I y D with h|h
  · cases h
  · exact⟨by omega,h.2⟩
section
variable {l1:List S38} {l2:List S40} {s:ByteArray} {l:List uw}
theorem Dr(h1:l1.length≤1000)(U:∀x∈l1,x.f4.size≤1000)(n:Int)(k:Nat)(hk:5003≤k):∃r,iJ.f k s l1 l2 n=some r:=by
  by_cases G:iC l1 n=4∨iC l1 n=8∨iC l1 n=9
  · have D:inL l1 n:=vQ (by omega)
    have e:iC l1 n=(nd l1 n).f0:=if_pos D;have L:nd l1 n∈l1:=by
      obtain⟨a,b⟩:=D;(have I:(n-1).toNat<l1.length:=by omega);unfold nd;rw[show wrap64 (n-1)=(((n-1).toNat:Nat):Int) by unfold wrap64;omega,Et I];exact List.getElem_mem I
    rw[e]at G;obtain⟨a,b,h⟩:=yV (s:=s) (l2:=l2) (by omega) D G (U _ L) k hk;exact⟨_,h⟩
  · unfold iJ.f
    rw[rV (by omega)];simp only[Option.bind_some];(obtain⟨k,rfl⟩:∃m,k=m+1:=⟨k-1,by omega⟩);rw[if_neg (by omega),if_neg (by omega),iJ.j0,if_pos (by simp;omega)];exact⟨_,rfl⟩
theorem Bh(h1:l1.length≤1000)(D:∀x∈l1,x.f4.size≤1000)(n:Int)(k:Nat)(hk:5003≤k):∃r,qN.f k s l1 l2 n=some r:=by
  obtain⟨r,h⟩:=Dr (s:=s) (l2:=l2) h1 D n k hk;unfold qN.f;rw[h];exact⟨_,rfl⟩
theorem IL(h2:l2.length≤1000)(n:Int)(k:Nat)(hk:1001≤k):iD.f k s l1 l2 n=some (outs l2 n):=yC (by omega) n l2.length k 0 [] (by omega) (by omega) (Nat.zero_le _)
theorem FL(h2:l2.length≤1000)(n:Int)(k:Nat)(hk:1001≤k):kE.f k s l1 l2 (outs l2 n)=some (again l2 (outs l2 n)):=by
  have hl:(outs l2 n).length≤l2.length:=Cr _ _ _;exact zu (by omega) (outs l2 n) (by omega) CX (outs l2 n).length k 0 [] (by omega) (by omega) (Nat.zero_le _)
theorem BX{n:Int}:∀f∈again l2 (outs l2 n),inF l2 f:=fun f h=>CX f (List.mem_filter.mp h).1
theorem AV(n:Int):(again l2 (outs l2 n)).length≤l2.length:=Nat.le_trans (List.length_filter_le _ _) (Cr _ _ _)
theorem Dc(h2:l2.length≤1000)(G:Int)(fs:List Int)(D:fs.length≤1000)(hi:∀f∈fs,inF l2 f):∀(m q:Nat) (x15:Int) (k:Nat),q+m=fs.length→m+1≤k→∃r,iq.l1 k G x15 fs (fs.length:Int) (q:Int) s l1 l2=some r
  |m,q,x15,0,hq,hk=>by omega
  |m,q,x15,k+1,hq,hk=>by
    rw[iq.l1]
    by_cases c:q<fs.length
    · obtain⟨m,rfl⟩:∃d,m=d+1:=⟨m-1,by omega⟩
      (have I:rd fs (q:Int)=fs[q]:=by unfold rd;rw[show((q:Int)).toNat=q by omega,List.getD_eq_getElem?_getD,List.getElem?_eq_getElem c];rfl);obtain⟨_,b⟩:=hi fs[q] (List.getElem_mem c);(have L:wrap64 (fs[q]-1)=fs[q]-1:=by unfold wrap64;omega);rw[if_pos (by omega),if_pos (by omega),if_pos (by omega),I,L,if_pos (by omega),if_pos (by omega),uM q (by omega)];exact Dc h2 G fs D hi m (q+1) _ k (by omega) (by omega)
    · rw[if_neg (by omega)]
      exact⟨_,rfl⟩
theorem EC(h1:l1.length≤1000)(h2:l2.length≤1000)(X:∀x∈l1,x.f4.size≤1000){i:Int}(L:0≤i)(hi:i<(l.length:Int))(ys:List Int)(q:Nat)(hq:ys.length≤q)(Z:List Int)(I U D G:Int)(k:Nat)(hk:6001≤k):
    ∃r,iq.l0 k l i Z I U D G ys (ys.length:Int) (q:Int) s l1 l2=some r:=by
  obtain⟨k,rfl⟩:∃m,k=m+1:=⟨k-1,by omega⟩
  rw[iq.l0,if_neg (by omega),if_pos L,if_pos hi];obtain⟨r,Y⟩:=Bh (s:=s) (l2:=l2) h1 X (kC l i).f1 k (by omega);have hl:=AV (l2:=l2) (kC l i).f2;obtain⟨t,ht⟩:=Dc (l1:=l1) (s:=s) h2 I (again l2 (outs l2 (kC l i).f2)) (by omega) BX _ 0 0 k (Nat.zero_add _) (by omega);rw[IL h2 _ k (by omega)];simp only[Option.bind_some];rw[FL h2 _ k (by omega)];simp only[Option.bind_some];rw[Y];rw[show((0:Nat):Int)=0 from rfl]at ht;rw[ht];unfold iA.f kX.f;simp only[Option.bind_some];repeat' split
  all_goals exact⟨_,rfl⟩
theorem AO (h1:l1.length≤1000) (h2:l2.length≤1000) (I:∀x∈l1,x.f4.size≤1000) {i:Int} (G:0≤i) (hi:i<(l.length:Int)) (ys:List Int) (L:ys.length≤100000) (N:Nat) (U:6001≤N)
    (ih:∀y∈ys,0≤y∧y<(l.length:Int)∧∀k,N≤k→∃r,iq.f k s l1 l2 l y=some r) (D:List Int):∀(m q:Nat) (x8 x9 x10 x11:Int) (k:Nat),q+m=ys.length→m+N≤k→
    ∃r,iq.l0 k l i D x8 x9 x10 x11 ys (ys.length:Int) (q:Int) s l1 l2=some r
  |0,q,x8,x9,x10,x11,k,hq,hk=>EC h1 h2 I G hi ys q (by omega) D x8 x9 x10 x11 k (by omega)
  |m+1,q,x8,x9,x10,x11,k,hq,hk=>by
    obtain⟨k,rfl⟩:∃m,k=m+1:=⟨k-1,by omega⟩
    have c:q<ys.length:=by omega
    have hr:rd ys (q:Int)=ys[q]:=by unfold rd;rw[show((q:Int)).toNat=q by omega,List.getD_eq_getElem?_getD,List.getElem?_eq_getElem c];rfl
    obtain⟨Y,X,Z⟩:=ih ys[q] (List.getElem_mem c)
    obtain⟨t,ht⟩:=Z k (by omega)
    rw[iq.l0,if_pos (by omega),if_pos (by omega),if_pos (by omega),hr,ht]
    simp only[Option.bind_some]
    unfold iA.f
    simp only[Option.bind_some]
    rw[if_pos Y,if_pos X,uM q (by omega)]
    split
    · exact AO h1 h2 I G hi ys L N U ih D m (q+1) _ _ _ _ k (by omega) (by omega)
    · exact AO h1 h2 I G hi ys L N U ih D m (q+1) _ _ _ _ k (by omega) (by omega)
theorem BU(h1:l1.length≤1000)(h2:l2.length≤1000)(L:∀x∈l1,x.f4.size≤1000)(hl:l.length≤100000)(C D:Nat)(hC:3*l.length+10≤C)(hD:6001≤D):∀(m:Nat) (i:Int),0≤i→i<(l.length:Int)→(l.length:Int)-i≤m→∀k,m*C+D≤k→∃r,iq.f k s l1 l2 l i=some r
  |0,i,h0,hi,hm,k,hk=>by omega
  |m+1,i,h0,hi,hm,k,hk=>by
    rw[Nat.succ_mul]at hk
    have ih:=BU h1 h2 L hl C D hC hD m
    generalize m*C=P at hk ih
    obtain⟨k,rfl⟩:∃m,k=m+1:=⟨k-1,by omega⟩
    obtain⟨ys,G,_,I⟩:=DJ hl h0 hi k (by omega)
    rw[iq.f,G]
    simp only[Option.bind_some]
    have X:6001≤P+D:=by omega
    have U:ys.length+(P+D)≤k:=by omega
    have Y:∀y∈ys,0≤y∧y<(l.length:Int)∧∀k,P+D≤k→∃r,iq.f k s l1 l2 l y=some r:=fun y Z=>by
      obtain⟨_,b⟩:=I y Z
      exact⟨by omega,b,fun k hk=>ih y (by omega) b (by omega) k hk⟩
    generalize P+D=N at X U Y
    have:=AO h1 h2 L h0 hi ys (by omega) N X Y ys ys.length 0 0 0 0 0 k (Nat.zero_add _) U
    rw[show((0:Nat):Int)=0 from rfl]at this
    exact this
theorem Dg(h2:l2.length≤1000)(u v:Int)(fs:List Int)(D:fs.length≤1000)(hi:∀f∈fs,inF l2 f):∀(m q:Nat) (x17:Int) (k:Nat),q+m=fs.length→m+1≤k→∃r,eF.l1 k x17 fs (fs.length:Int) (q:Int) s l1 l2 u v=some r
  |m,q,x17,0,hq,hk=>by omega
  |m,q,x17,k+1,hq,hk=>by
    rw[eF.l1]
    by_cases c:q<fs.length
    · obtain⟨m,rfl⟩:∃d,m=d+1:=⟨m-1,by omega⟩
      (have I:rd fs (q:Int)=fs[q]:=by unfold rd;rw[show((q:Int)).toNat=q by omega,List.getD_eq_getElem?_getD,List.getElem?_eq_getElem c];rfl);obtain⟨_,b⟩:=hi fs[q] (List.getElem_mem c);(have G:wrap64 (fs[q]-1)=fs[q]-1:=by unfold wrap64;omega);rw[if_pos (by omega),if_pos (by omega),if_pos (by omega),I,G,if_pos (by omega),if_pos (by omega),uM q (by omega)];exact Dg h2 u v fs D hi m (q+1) _ k (by omega) (by omega)
    · rw[if_neg (by omega)]
      exact⟨_,rfl⟩
theorem IV(h1:l1.length≤1000)(U:∀x∈l1,x.f4.size≤1000){i:Int}(L:0≤i)(hi:i<(l.length:Int))(G I D:Int)(b:Bool)(u v y z:Int)(k:Nat)(hk:5100≤k):∃r,eF.j4 k l i G I D b s l1 l2 u v y z=some r:=by
  obtain⟨k,rfl⟩:∃m,k=m+1:=⟨k-1,by omega⟩
  rw[eF.j4,if_pos L,if_pos hi];obtain⟨r,X⟩:=Bh (s:=s) (l2:=l2) h1 U (kC l i).f1 k (by omega);rw[X];unfold iA.f kX.f;simp only[Option.bind_some];repeat' split
  all_goals exact⟨_,rfl⟩
theorem EH(h1:l1.length≤1000)(h2:l2.length≤1000)(Z:∀x∈l1,x.f4.size≤1000){i:Int}(I:0≤i)(hi:i<(l.length:Int))(ys:List Int)(q:Nat)(hq:ys.length≤q)(D G U L a3 a4 X a6 Y a8:Int)(k:Nat)(hk:6001≤k):
    ∃r,eF.l0 k l i D G ys (ys.length:Int) (q:Int) s l1 l2 U L a3 a4 X a6 Y a8=some r:=by
  obtain⟨k,rfl⟩:∃m,k=m+1:=⟨k-1,by omega⟩
  rw[eF.l0,if_neg (by omega),if_pos I,if_pos hi];have hl:=AV (l2:=l2) (kC l i).f2;obtain⟨t,ht⟩:=Dg (l1:=l1) (s:=s) h2 U L (again l2 (outs l2 (kC l i).f2)) (by omega) BX _ 0 0 k (Nat.zero_add _) (by omega);rw[IL h2 _ k (by omega)];simp only[Option.bind_some];rw[FL h2 _ k (by omega)];simp only[Option.bind_some];rw[show((0:Nat):Int)=0 from rfl]at ht;rw[ht];repeat' split
  all_goals first|exact⟨_,rfl⟩|exact IV h1 Z I hi _ _ _ _ _ _ _ _ k (by omega)
theorem Dv (h1:l1.length≤1000) (h2:l2.length≤1000) (Y:∀x∈l1,x.f4.size≤1000) {i:Int} (I:0≤i) (hi:i<(l.length:Int)) (ys:List Int) (hy:ys.length≤100000) (N:Nat) (hN:6001≤N)
    (ih:∀y∈ys,0≤y∧y<(l.length:Int)∧∀k,N≤k→∃r,eF.f k s l1 l2 l y=some r):∀(m q:Nat) (G D a1 a2 a3 a4 a5 a6 a7 a8:Int) (k:Nat),q+m=ys.length→2*m+N≤k→
    ∃r,eF.l0 k l i G D ys (ys.length:Int) (q:Int) s l1 l2 a1 a2 a3 a4 a5 a6 a7 a8=some r
  |0,q,G,D,a1,a2,a3,a4,a5,a6,a7,a8,k,hq,hk=>EH h1 h2 Y I hi ys q (by omega) _ _ _ _ _ _ _ _ _ _ k (by omega)
  |m+1,q,G,D,a1,a2,a3,a4,a5,a6,a7,a8,k,hq,hk=>by
    obtain⟨k,rfl⟩:∃m,k=m+2:=⟨k-2,by omega⟩
    have c:q<ys.length:=by omega
    have hr:rd ys (q:Int)=ys[q]:=by unfold rd;rw[show((q:Int)).toNat=q by omega,List.getD_eq_getElem?_getD,List.getElem?_eq_getElem c];rfl
    obtain⟨y0,y1,y2⟩:=ih ys[q] (List.getElem_mem c)
    obtain⟨t,ht⟩:=y2 (k+1) (by omega)
    have go:∀G D b1 b2 U b4 L b6 Z X c1 c2,∃r,eF.j2 (k+1) l i G D ys (ys.length:Int) (q:Int) s l1 l2 b1 b2 U b4 L b6 Z X c1 c2=some r:=by
      intro G D b1 b2 U b4 L b6 Z X c1 c2;rw[eF.j2];unfold iA.f;simp only[Option.bind_some];rw[uM q (by omega)];exact Dv h1 h2 Y I hi ys hy N hN ih m (q+1) _ _ _ _ _ _ _ _ _ _ k (by omega) (by omega)
    rw[eF.l0,if_pos (by omega),if_pos (by omega),if_pos (by omega),hr,ht]
    simp only[Option.bind_some]
    rw[if_pos y0,if_pos y1]
    unfold iA.f
    simp only[Option.bind_some]
    repeat' split
    all_goals exact go _ _ _ _ _ _ _ _ _ _ _ _
theorem BS(h1:l1.length≤1000)(h2:l2.length≤1000)(U:∀x∈l1,x.f4.size≤1000)(hl:l.length≤100000)(C D:Nat)(hC:3*l.length+10≤C)(hD:6001≤D):∀(m:Nat) (i:Int),0≤i→i<(l.length:Int)→(l.length:Int)-i≤m→∀k,m*C+D≤k→∃r,eF.f k s l1 l2 l i=some r
  |0,i,h0,hi,hm,k,hk=>by omega
  |m+1,i,h0,hi,hm,k,hk=>by
    rw[Nat.succ_mul]at hk
    have ih:=BS h1 h2 U hl C D hC hD m
    generalize m*C=P at hk ih
    obtain⟨k,rfl⟩:∃m,k=m+2:=⟨k-2,by omega⟩
    obtain⟨ys,I,_,L⟩:=DJ hl h0 hi (k+1) (by omega)
    rw[eF.f,I]
    simp only[Option.bind_some]
    have Y:6001≤P+D:=by omega
    have X:2*ys.length+(P+D)≤k:=by omega
    have Z:∀y∈ys,0≤y∧y<(l.length:Int)∧∀k,P+D≤k→∃r,eF.f k s l1 l2 l y=some r:=fun y hy=>by
      obtain⟨_,b⟩:=L y hy
      exact⟨by omega,b,fun k hk=>ih y (by omega) b (by omega) k hk⟩
    generalize P+D=N at Y X Z
    have go:∀G,∃r,eF.j0 (k+1) l i ys G 0 s l1 l2 0 0 0 0 0 0 0 0=some r:=fun G=>by
      rw[eF.j0]
      have:=Dv h1 h2 U h0 hi ys (by omega) N Y Z ys.length 0 G 0 0 0 0 0 0 0 0 0 k (Nat.zero_add _) X
      rw[show((0:Nat):Int)=0 from rfl]at this
      exact this
    rw[if_pos h0,if_pos hi]
    split
    · exact go 1
    · exact go 0
end
end Go.Proofs.Ng
