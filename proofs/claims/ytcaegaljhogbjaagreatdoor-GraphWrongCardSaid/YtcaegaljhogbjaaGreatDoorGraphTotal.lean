/- The reference's Check comes to an end at every definition of moderate size. -/
import Derived.Test.YtcaegaljhogbjaaGreatDoorGraphMore
import Derived.Test.YtcaegaljhogbjaaGreatDoorYx5
set_option linter.unusedSectionVars false
set_option linter.unusedVariables false
namespace Go.Proofs.Gr
open RowKit Lib PW Y Z B Q
theorem FM{α:Type}{p:Prop}[Decidable p]{x y:Option α}(h1:∃t,x=some t)(h2:∃t,y=some t):∃t,(if p then x else y)=some t:=by
  split
  · exact h1
  · exact h2
section
variable {l1:List S38} {l2:List S40} {s:ByteArray}
theorem zx(D:l2.length≤1000000)(x:Int):∀(m k i:Nat) (xs:List Int),i+m=l2.length→m<k→xs.length≤i→∃ys,iD.l0 k x xs i s l1 l2=some ys
  |m,0,i,xs,_,h,_=>by omega
  |m,k+1,i,xs,hm,hk,hx=>by
    rw[iD.l0]
    by_cases c:i<l2.length
    · obtain⟨m,rfl⟩:∃d,m=d+1:=⟨m-1,by omega⟩
      rw[if_pos (by omega),if_pos (by omega),rT i (by omega)]
      split
      · rw[if_pos (by omega)]
        exact zx D x m k (i+1) _ (by omega) (by omega) (by simp;omega)
      · exact zx D x m k (i+1) _ (by omega) (by omega) (by omega)
    · rw[if_neg (by omega)]
      exact⟨_,rfl⟩
theorem Cg(D:l2.length≤1000000)(x:Int):∀(m k i:Nat) (xs:List Int),i+m=l2.length→m<k→xs.length≤i→∃ys,iM.l0 k x xs i s l1 l2=some ys
  |m,0,i,xs,_,h,_=>by omega
  |m,k+1,i,xs,hm,hk,hx=>by
    rw[iM.l0]
    by_cases c:i<l2.length
    · obtain⟨m,rfl⟩:∃d,m=d+1:=⟨m-1,by omega⟩
      rw[if_pos (by omega),if_pos (by omega),rT i (by omega)]
      split
      · rw[if_pos (by omega)]
        exact Cg D x m k (i+1) _ (by omega) (by omega) (by simp;omega)
      · exact Cg D x m k (i+1) _ (by omega) (by omega) (by omega)
    · rw[if_neg (by omega)]
      exact⟨_,rfl⟩
theorem yQ(hl:l1.length≤1000000)(x:Int):∀(m k i:Nat) (xs:List Int),i+m=l1.length→m<k→xs.length≤i→∃ys,iE.l0 k x xs i s l1 l2=some ys∧ys.length≤l1.length
  |m,0,i,xs,_,h,_=>by omega
  |m,k+1,i,xs,hm,hk,hx=>by
    rw[iE.l0]
    by_cases c:i<l1.length
    · obtain⟨m,rfl⟩:∃d,m=d+1:=⟨m-1,by omega⟩
      rw[if_pos (by omega),if_pos (by omega),rT i (by omega)]
      split
      · rw[if_pos (by omega)]
        exact yQ hl x m k (i+1) _ (by omega) (by omega) (by simp;omega)
      · exact yQ hl x m k (i+1) _ (by omega) (by omega) (by omega)
    · rw[if_neg (by omega)]
      exact⟨_,rfl,by omega⟩
theorem vH(hl:l1.length≤1000000)(L:List Int)(D:L.length≤1000000):∀(m k i:Nat) (a b:Int),i+m=L.length→m<k→∃t,iG.l0 k a b L (L.length:Int) i s l1 l2=some t
  |m,0,i,a,b,_,h=>by omega
  |m,k+1,i,a,b,hm,hk=>by
    rw[iG.l0]
    by_cases c:i<L.length
    · obtain⟨m,rfl⟩:∃d,m=d+1:=⟨m-1,by omega⟩
      rw[if_pos (by omega),if_pos (by omega),if_pos (by omega),rT i (by omega)];simp only[rV hl,Option.bind_some]
      split
      · split
        · exact vH hl L D m k (i+1) _ _ (by omega) (by omega)
        · exact vH hl L D m k (i+1) _ _ (by omega) (by omega)
      · split
        · exact vH hl L D m k (i+1) _ _ (by omega) (by omega)
        · exact vH hl L D m k (i+1) _ _ (by omega) (by omega)
    · rw[if_neg (by omega)]
      split
      · exact⟨_,rfl⟩
      · exact⟨_,rfl⟩
theorem Jg(hl:l1.length≤1000000)(n:Int)(k:Nat)(hk:l1.length<k):∃t,iG.f k s l1 l2 n=some t:=by
  obtain⟨L,D,_⟩:=yQ (s:=s) (l2:=l2) hl n l1.length k 0 [] (by omega) hk (Nat.le_refl _);unfold iG.f iE.f;rw[show iE.l0 k n [] 0 s l1 l2=some L from D];simp only[Option.bind_some];exact vH hl L (by omega) L.length k 0 0 0 (by omega) (by omega)
theorem AR(hl:l1.length≤1000000):∀(m k i:Nat) (n:Int),i+m=60→m<k→∃r,iI.l0 k n i s l1 l2=some r
  |m,0,i,n,_,h=>by omega
  |m,k+1,i,n,hm,hk=>by
    rw[iI.l0,Io hl]
    simp only[Option.bind_some]
    by_cases c:inL l1 n
    · obtain⟨_,p,q⟩:=zw hl c
      rw[if_pos (decide_eq_true c),if_pos p,if_pos q]
      split
      · exact⟨_,rfl⟩
      · by_cases D:i<60
        · obtain⟨m,rfl⟩:∃d,m=d+1:=⟨m-1,by omega⟩
          rw[if_pos (by omega),rT i (by omega)];exact AR hl m k (i+1) _ (by omega) (by omega)
        · rw[if_neg (by omega)]
          exact⟨_,rfl⟩
    · rw[if_neg (by rw[decide_eq_false c];decide)]
      exact⟨_,rfl⟩
theorem Ei(hl:l1.length≤1000000)(D:l2.length≤1000000)(n:Int)(k:Nat)(hk:l2.length<k):∃t,ig.f k s l1 l2 n=some t:=by
  obtain⟨is,hi⟩:=Cg (s:=s) (l1:=l1) D n l2.length k 0 [] (by omega) hk (Nat.le_refl _);obtain⟨I,L⟩:=zx (s:=s) (l1:=l1) D n l2.length k 0 [] (by omega) hk (Nat.le_refl _);unfold ig.f iM.f iD.f;rw[show iM.l0 k n [] 0 s l1 l2=some is from hi,show iD.l0 k n [] 0 s l1 l2=some I from L,rV hl];simp only[Option.bind_some];obtain⟨k,rfl⟩:∃d,k=d+1:=⟨k-1,by omega⟩
  have G:∀(a b c:Int) (d:Bool),∃t,ig.j0 (k+1) a b c d=some t:=by
    intro a b c d;rw[ig.j0];repeat' (first|(with_reducible exact⟨_,rfl⟩)|(with_reducible refine FM ?_ ?_))
  exact FM (G _ _ _ _) (G _ _ _ _)
theorem Hr(hl:l1.length≤1000000)(G:l2.length≤1000000){n:Int}(h1:1≤n)(h2:n≤(l2.length:Int))(k:Nat)(hk:l2.length<k):∃t,iU.f k s l1 l2 n=some t:=by
  have e:wrap64 (n-1)=n-1:=by unfold wrap64;omega
  unfold iU.f;rw[if_pos (by rw[e];omega),rV hl,rV hl];simp only[Option.bind_some];obtain⟨D,I⟩:=zx (s:=s) (l1:=l1) G (iR l2 (wrap64 (n-1))).f0 l2.length k 0 [] (by omega) hk (Nat.le_refl _);unfold iD.f;rw[show iD.l0 k _ [] 0 s l1 l2=some D from I];exact⟨_,rfl⟩
theorem G7(hl:l1.length≤100):∀(m k i:Nat),i+m=l1.length+1→6000+m≤k→∃r,eu.l4 k i s l1 l2=some r
  |m,0,i,_,h=>by omega
  |m,k+1,i,hm,hk=>by
    rw[eu.l4]
    by_cases c:i≤l1.length
    · obtain⟨m,rfl⟩:∃d,m=d+1:=⟨m-1,by omega⟩
      rw[if_pos (by omega),rT i (by omega)];obtain⟨t,ht⟩:=AR (s:=s) (l2:=l2) (show l1.length≤1000000 by omega) 60 k 0 i (by omega) (by omega);rw[show iI.f k s l1 l2 i=some t from ht];simp only[Option.bind_some]
      split
      · exact⟨_,rfl⟩
      · exact G7 hl m k (i+1) (by omega) (by omega)
    · rw[if_neg (by omega)]
      exact⟨_,rfl⟩
theorem I8(hl:l1.length≤100):∀(m k i:Nat),i+m=l1.length+1→6200+m≤k→∃r,eu.l3 k i s l1 l2=some r
  |m,0,i,_,h=>by omega
  |m,k+1,i,hm,hk=>by
    rw[eu.l3]
    by_cases c:i≤l1.length
    · obtain⟨m,rfl⟩:∃d,m=d+1:=⟨m-1,by omega⟩
      rw[if_pos (by omega),rT i (by omega)];obtain⟨t,ht⟩:=Jg (s:=s) (l2:=l2) (show l1.length≤1000000 by omega) i k (by omega);rw[ht,vT (show l1.length≤1000000 by omega)];simp only[Option.bind_some];have D:=I8 hl m k (i+1) (by omega) (by omega)
      split
      · split
        · exact D
        · exact⟨_,rfl⟩
      · split
        · split
          · exact D
          · exact⟨_,rfl⟩
        · exact D
    · rw[if_neg (by omega)]
      exact G7 hl l1.length k 1 (by omega) (by omega)
theorem GY(hl:l1.length≤100)(D:l2.length≤150):∀(m k i:Nat),i+m=l1.length+1→6400+m≤k→∃r,eu.l2 k i s l1 l2=some r
  |m,0,i,_,h=>by omega
  |m,k+1,i,hm,hk=>by
    rw[eu.l2]
    by_cases c:i≤l1.length
    · obtain⟨m,rfl⟩:∃d,m=d+1:=⟨m-1,by omega⟩
      rw[if_pos (by omega),rT i (by omega)];obtain⟨t,ht⟩:=Ei (s:=s) (show l1.length≤1000000 by omega) (show l2.length≤1000000 by omega) i k (by omega);rw[ht];simp only[Option.bind_some]
      split
      · exact GY hl D m k (i+1) (by omega) (by omega)
      · exact⟨_,rfl⟩
    · rw[if_neg (by omega)]
      exact I8 hl (l1.length+1) k 0 (by omega) (by omega)
theorem IY(hl:l1.length≤100)(D:l2.length≤150):∀(m k i:Nat),1≤i→i+m=l2.length+1→6600+m≤k→∃r,eu.l1 k i s l1 l2=some r
  |m,0,i,_,_,h=>by omega
  |m,k+1,i,h1,hm,hk=>by
    rw[eu.l1]
    by_cases c:i≤l2.length
    · obtain⟨m,rfl⟩:∃d,m=d+1:=⟨m-1,by omega⟩
      rw[if_pos (by omega),rT i (by omega)];obtain⟨t,ht⟩:=Hr (s:=s) (show l1.length≤1000000 by omega) (show l2.length≤1000000 by omega) (n:=i) (by omega) (by omega) k (by omega);rw[ht];simp only[Option.bind_some]
      split
      · exact IY hl D m k (i+1) (by omega) (by omega) (by omega)
      · exact⟨_,rfl⟩
    · rw[if_neg (by omega)]
      exact GY hl D l1.length k 1 (by omega) (by omega)
theorem Lh(hl:l1.length≤1000000){n:Int}(D:inL l1 n):nd l1 n∈l1:=by
  obtain⟨_,p,_⟩:=zw hl D;unfold nd iH;rw[List.getD_eq_getElem?_getD,List.getElem?_eq_getElem (show(wrap64 (n-1)).toNat<l1.length by omega)];exact List.getElem_mem _
theorem IE(hl:l1.length≤100)(D:l2.length≤150)(G:∀x∈l1,x.f4.size≤1000):∀(m k i:Nat),1≤i→i+m=l1.length+1→6800+m≤k→∃r,eu.l0 k i s l1 l2=some r
  |m,0,i,_,_,h=>by omega
  |m,k+1,i,h1,hm,hk=>by
    rw[eu.l0]
    by_cases c:i≤l1.length
    · obtain⟨m,rfl⟩:∃d,m=d+1:=⟨m-1,by omega⟩
      rw[if_pos (by omega),rT i (by omega)];(have I:inL l1 (i:Int):=⟨by omega,by omega⟩);have ht:iZ.f k s l1 l2 i=some (r9 l1 i (nd l1 i)):=by
        unfold iZ.f;rw[if_pos];simp only[Bool.and_eq_true,decide_eq_true_eq];exact⟨⟨by omega,I⟩,G _ (Lh (by omega) I)⟩
      rw[ht];simp only[Option.bind_some]
      split
      · exact IE hl D G m k (i+1) (by omega) (by omega) (by omega)
      · exact⟨_,rfl⟩
    · rw[if_neg (by omega)]
      exact IY hl D l2.length k 1 (by omega) (by omega) (by omega)
theorem GL(hl:l1.length≤100)(G:l2.length≤150)(I:∀x∈l1,x.f4.size≤1000)(k:Nat)(hk:7000≤k):∃r1 r2,eu.f k s l1 l2=some (r1,r2):=by
  obtain⟨k,rfl⟩:∃d,k=d+1:=⟨k-1,by omega⟩
  have D:∀b,∃r1 r2,eu.j0 (k+1) b s l1 l2=some (r1,r2):=by
    intro b;rw[eu.j0]
    split
    · exact⟨_,_,rfl⟩
    · obtain⟨⟨r1,r2⟩,h⟩:=IE (s:=s) hl G I l1.length k 1 (Nat.le_refl _) (by omega) (by omega)
      exact⟨r1,r2,h⟩
  unfold eu.f
  split
  · exact D _
  · split
    · exact D _
    · exact D _
theorem Ee(D:l2.length≤150):∀(m k i:Nat),i+m=l2.length→m<k→∃b,iK.l1 k i s l1 l2=some b
  |m,0,i,_,h=>by omega
  |m,k+1,i,hm,hk=>by
    rw[iK.l1]
    by_cases c:i<l2.length
    · obtain⟨m,rfl⟩:∃d,m=d+1:=⟨m-1,by omega⟩
      rw[if_pos (by omega),if_pos (by omega),rT i (by omega)]
      split
      · exact⟨_,rfl⟩
      · exact Ee D m k (i+1) (by omega) (by omega)
    · rw[if_neg (by omega)]
      exact⟨_,rfl⟩
theorem CY(hl:l1.length≤100)(I:l2.length≤150):∀(m k i:Nat),i+m=l1.length→200+m<k→∃b,iK.l0 k i s l1 l2=some b∧(b=true→∀j:Nat,i≤j→j<l1.length→(iH l1 (j:Int)).f4.size≤80)
  |m,0,i,_,h=>by omega
  |m,k+1,i,hm,hk=>by
    rw[iK.l0]
    by_cases c:i<l1.length
    · obtain⟨m,rfl⟩:∃d,m=d+1:=⟨m-1,by omega⟩
      rw[if_pos (by omega),if_pos (by omega),rT i (by omega)];by_cases L:(((iH l1 (i:Int)).f4).size:Int)>80
      · rw[if_pos L]
        exact⟨false,rfl,fun e=>by cases e⟩
      · rw[if_neg L]
        obtain⟨b,G,h⟩:=CY hl I m k (i+1) (by omega) (by omega);refine⟨b,G,fun e j X D=>?_⟩;by_cases U:j=i
        · subst U;omega
        · exact h e j (by omega) D
    · rw[if_neg (by omega)]
      obtain⟨b,G⟩:=Ee (s:=s) (l1:=l1) I l2.length k 0 (by omega) (by omega);exact⟨b,G,fun _ j X D=>by omega⟩
theorem GR(k:Nat)(hk:400≤k):∃b,iK.f k s l1 l2=some b∧(b=true→l1.length≤70∧l2.length≤110∧∀x∈l1,x.f4.size≤80):=by
  obtain⟨k,rfl⟩:∃d,k=d+1:=⟨k-1,by omega⟩
  unfold iK.f;simp only[iK.j0];by_cases h1:(l1.length:Int)>70
  · rw[if_pos h1]
    exact⟨false,rfl,fun e=>by cases e⟩
  · rw[if_neg h1]
    by_cases h2:(l2.length:Int)>110
    · rw[if_pos h2]
      exact⟨false,rfl,fun e=>by cases e⟩
    · rw[if_neg h2]
      by_cases G:(s.size:Int)>60
      · rw[decide_eq_true G]
        exact⟨false,rfl,fun e=>by cases e⟩
      · rw[decide_eq_false G,if_neg (by decide)]
        obtain⟨b,L,h⟩:=CY (s:=s) (show l1.length≤100 by omega) (show l2.length≤150 by omega) l1.length k 0 (by omega) (by omega);refine⟨b,L,fun e=>⟨by omega,by omega,fun x I=>?_⟩⟩;obtain⟨j,D,rfl⟩:=List.getElem_of_mem I;have:=h e j (Nat.zero_le _) D;rw[Et D]at this;exact this
end
end Go.Proofs.Gr
