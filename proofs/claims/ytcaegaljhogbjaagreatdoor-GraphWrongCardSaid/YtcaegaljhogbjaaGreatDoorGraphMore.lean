/- (number).shape, walked by hand. -/
import Derived.Test.YtcaegaljhogbjaaGreatDoorGraphFlow
import Derived.Test.YtcaegaljhogbjaaGreatDoorRefFlow
import Derived.Test.YtcaegaljhogbjaaGreatDoorZx3
set_option linter.unusedSectionVars false
set_option linter.unusedSimpArgs false
set_option linter.unusedVariables false
namespace Go.Proofs.Gr
open RowKit Lib Go.Sort PW PL PM Y Gd
def shE(D:Int)(i o:Nat):Bool:=
  if D=5∨D=6 then(i==1&&decide (2≤o))||(decide (2≤i)&&o==1)
  else if D=1∨D=8 then i==0&&o==1
  else if D=2 then i==1&&o==0
  else if D=9 then i==0&&o==0
  else i==1&&o==1
theorem Ey{b:Int}(h:qE.f b=some true):b=5∨b=6:=by
  unfold qE.f at h
  split at h
  · exact Or.inl (by assumption)
  · exact Or.inr (beq_iff_eq.mp (Option.some.inj h))
theorem Ed{b:Int}(h:qE.f b=some false):b≠5∧b≠6:=by
  unfold qE.f at h
  split at h
  · cases h
  · exact⟨by assumption,beq_eq_false_iff_ne.mp (Option.some.inj h)⟩
set_option maxHeartbeats 8000000 in
set_option maxRecDepth 100000 in
theorem CK (a0:ByteArray) (A1:Option Addr) (c1:Nat) (l1:List S38) (A2:Option Addr) (c2:Nat) (l2:List S40) (b1 b2:Nat) (n:Int) (w:World)
    (aa:Kd.C k38 w A1 l1.length l1) (hG:GM w b1 b2 l2) (p:0≤wrap64 (n-1)) (q:wrap64 (n-1)<(l1.length:Int)):
    Calls Tryz.prog 25 #[.agg #[.string a0, .slice A1 l1.length c1, .slice A2 l2.length c2, .map (some b1), .map (some b2)], .int .i64 n] w fun e w'=>e= .returned (.bool (shE (iH l1 (wrap64 (n-1))).f0 (cnt l2 (false,n)) (cnt l2 (true,n))))∧Below w.heap.size w w':=by
  have aC:(IntKind.i64.wrap (n-1))=wrap64 (n-1):=kZ _;generalize wrap64 (n-1)=j at*;obtain⟨ad,e,Y,_,_,_,_⟩:=tH aa j p q;subst e;have ao:=World.block_lt_of_cell? w _ Y;have aA:(ad.add (j.toNat*5)).block≠w.heap.size:=Nat.ne_of_lt ao;have p':=eq_true p;have q':=eq_true q;generalize iH l1 j=x at*;obtain⟨kd,_,_,_,_⟩:=x;dsimp only at Y⊢;obtain⟨_,_,ab⟩:=hG.LH (w':=w) n;obtain⟨_,_,af⟩:=hG.look (w':=w) n;generalize cnt l2 (false,n)=i at*;generalize cnt l2 (true,n)=o at*;have U:=mk0 ab;have X:=mk0 af;clear aa hG ab af;go_enter Tryz.func25,Tryz.ntmps25;go_wp2_with fail;have HB:=mk0 (eX (Below.refl w.heap.size w) (.cells #[.string a0, .slice (some ad) l1.length c1, .slice A2 l2.length c2, .map (some b1), .map (some b2)] 53));have an:=fun L=>U.out _ (eP HB.out L);have aj:=fun L=>X.out _ (eP HB.out L);have ak:=U.out _ (eZ HB.out);have am:=X.out _ (eZ HB.out);have al:=U.out _ HB.out;have ai:=X.out _ HB.out;go_quiet(fail);obtain⟨fk,ae⟩:∃fk,qE.f kd=some fk:=by unfold qE.f;split<;>exact⟨_,rfl⟩
  have D:=mk0 ae;clear ae an aj ak am al ai U X;have aw:((o:Int)==1)=(o==1):=by rw[Bool.eq_iff_iff,beq_iff_eq,beq_iff_eq];omega
  have ay:((o:Int)==0)=(o==0):=by rw[Bool.eq_iff_iff,beq_iff_eq,beq_iff_eq];omega
  cases fk with
  |false=>
    obtain⟨h5,h6⟩:=Ed D.out;by_cases L:kd=1
    · subst L
      by_cases hi:i=0
      · subst hi
        go_wp2_with(go_at_call 47;(with_reducible refine(qE.calls _ _ _ D.out).mono ?_);rintro e G⟨rfl,⟨nd,rfl⟩⟩);go_ret;exact⟨by simp[shE,],by repeat(first|exact HB.out|apply eP|apply eZ)⟩
      · have I:((i:Int)==0)=false:=by rw[beq_eq_false_iff_ne];omega
        go_wp2_with(go_at_call 47;(with_reducible refine(qE.calls _ _ _ D.out).mono ?_);rintro e G⟨rfl,⟨nd,rfl⟩⟩);go_ret;exact⟨by simp[shE,hi],by repeat(first|exact HB.out|apply eP|apply eZ)⟩
    · have az:(kd==1)=false:=beq_eq_false_iff_ne.mpr L
      have ax:(kd !=1)=true:=bne_iff_ne.mpr L;by_cases k8:kd=8
      · subst k8
        by_cases hi:i=0
        · subst hi
          go_wp2_with(go_at_call 47;(with_reducible refine(qE.calls _ _ _ D.out).mono ?_);rintro e G⟨rfl,⟨nd,rfl⟩⟩);go_ret;exact⟨by simp[shE,],by repeat(first|exact HB.out|apply eP|apply eZ)⟩
        · have I:((i:Int)==0)=false:=by rw[beq_eq_false_iff_ne];omega
          go_wp2_with(go_at_call 47;(with_reducible refine(qE.calls _ _ _ D.out).mono ?_);rintro e G⟨rfl,⟨nd,rfl⟩⟩);go_ret;exact⟨by simp[shE,hi],by repeat(first|exact HB.out|apply eP|apply eZ)⟩
      · have aB:(kd==8)=false:=beq_eq_false_iff_ne.mpr k8
        have ar:(kd !=8)=true:=bne_iff_ne.mpr k8;by_cases k2:kd=2
        · subst k2
          by_cases hi:i=1
          · subst hi
            go_wp2_with(go_at_call 47;(with_reducible refine(qE.calls _ _ _ D.out).mono ?_);rintro e G⟨rfl,⟨nd,rfl⟩⟩);go_ret;exact⟨by simp[shE,],by repeat(first|exact HB.out|apply eP|apply eZ)⟩
          · have I:((i:Int)==1)=false:=by rw[beq_eq_false_iff_ne];omega
            go_wp2_with(go_at_call 47;(with_reducible refine(qE.calls _ _ _ D.out).mono ?_);rintro e G⟨rfl,⟨nd,rfl⟩⟩);go_ret;exact⟨by simp[shE,hi],by repeat(first|exact HB.out|apply eP|apply eZ)⟩
        · have aq:(kd==2)=false:=beq_eq_false_iff_ne.mpr k2
          have av:(kd !=2)=true:=bne_iff_ne.mpr k2;by_cases Z:kd=9
          · subst Z
            by_cases hi:i=0
            · subst hi
              go_wp2_with(go_at_call 47;(with_reducible refine(qE.calls _ _ _ D.out).mono ?_);rintro e G⟨rfl,⟨nd,rfl⟩⟩);go_ret;exact⟨by simp[shE,],by repeat(first|exact HB.out|apply eP|apply eZ)⟩
            · have I:((i:Int)==0)=false:=by rw[beq_eq_false_iff_ne];omega
              go_wp2_with(go_at_call 47;(with_reducible refine(qE.calls _ _ _ D.out).mono ?_);rintro e G⟨rfl,⟨nd,rfl⟩⟩);go_ret;exact⟨by simp[shE,hi],by repeat(first|exact HB.out|apply eP|apply eZ)⟩
          · have ap:(kd==9)=false:=beq_eq_false_iff_ne.mpr Z
            have au:(kd !=9)=true:=bne_iff_ne.mpr Z;by_cases hi:i=1
            · subst hi
              go_wp2_with(go_at_call 47;(with_reducible refine(qE.calls _ _ _ D.out).mono ?_);rintro e G⟨rfl,⟨nd,rfl⟩⟩);go_ret;exact⟨by simp[shE,h5,h6,L,k8,k2,Z],by repeat(first|exact HB.out|apply eP|apply eZ)⟩
            · have I:((i:Int)==1)=false:=by rw[beq_eq_false_iff_ne];omega
              go_wp2_with(go_at_call 47;(with_reducible refine(qE.calls _ _ _ D.out).mono ?_);rintro e G⟨rfl,⟨nd,rfl⟩⟩);go_ret;exact⟨by simp[shE,hi,h5,h6,L,k8,k2,Z],by repeat(first|exact HB.out|apply eP|apply eZ)⟩
  |true=>
    have hk:=Ey D.out;by_cases hi:i=1
    · subst hi
      by_cases h2:2≤o
      · have ag:decide ((o:Int)≥2)=true:=decide_eq_true (by omega)
        go_wp2_with(go_at_call 47;(with_reducible refine(qE.calls _ _ _ D.out).mono ?_);rintro e G⟨rfl,⟨nd,rfl⟩⟩);go_ret;exact⟨by simp[shE,hk,h2],by repeat(first|exact HB.out|apply eP|apply eZ)⟩
      · have ag:decide ((o:Int)≥2)=false:=decide_eq_false (by omega)
        go_wp2_with(go_at_call 47;(with_reducible refine(qE.calls _ _ _ D.out).mono ?_);rintro e G⟨rfl,⟨nd,rfl⟩⟩);go_ret;exact⟨by simp[shE,hk,h2],by repeat(first|exact HB.out|apply eP|apply eZ)⟩
    · have I:((i:Int)==1)=false:=by rw[beq_eq_false_iff_ne];omega
      by_cases h3:2≤i
      · have ah:decide ((i:Int)≥2)=true:=decide_eq_true (by omega)
        go_wp2_with(go_at_call 47;(with_reducible refine(qE.calls _ _ _ D.out).mono ?_);rintro e G⟨rfl,⟨nd,rfl⟩⟩);go_ret;exact⟨by simp[shE,hk,hi,h3],by repeat(first|exact HB.out|apply eP|apply eZ)⟩
      · have ah:decide ((i:Int)≥2)=false:=decide_eq_false (by omega)
        go_wp2_with(go_at_call 47;(with_reducible refine(qE.calls _ _ _ D.out).mono ?_);rintro e G⟨rfl,⟨nd,rfl⟩⟩);go_ret;exact⟨by simp[shE,hk,hi,h3],by repeat(first|exact HB.out|apply eP|apply eZ)⟩
open Z Ext B Q
theorem FU{l2:List S40}{i:Nat}(h:i<l2.length):iR l2 (i:Int)=l2[i]:=by
  unfold iR;rw[Int.toNat_natCast,List.getD_eq_getElem?_getD,List.getElem?_eq_getElem h];rfl
theorem Et{l1:List S38}{i:Nat}(h:i<l1.length):iH l1 (i:Int)=l1[i]:=by
  unfold iH;rw[Int.toNat_natCast,List.getD_eq_getElem?_getD,List.getElem?_eq_getElem h];rfl
theorem D7{l2:List S40}{i:Nat}(h:i<l2.length)(p:Bool×Int):cnt (l2.drop i) p=(if(if p.1 then l2[i].f0 else l2[i].f1)=p.2 then 1 else 0)+cnt (l2.drop (i+1)) p:=by
  rw[List.drop_eq_getElem_cons h];unfold cnt;rw[List.filter_cons];by_cases e:(if p.1 then l2[i].f0 else l2[i].f1)=p.2
  · rw[if_pos (decide_eq_true e),if_pos e,List.length_cons];omega
  · rw[if_neg (by rw[decide_eq_false e];decide),if_neg e];omega
theorem FP{l2:List S40}{i:Nat}(h:l2.length≤i)(p:Bool×Int):cnt (l2.drop i) p=0:=by rw[List.drop_of_length_le h];rfl
section
variable {l1:List S38} {l2:List S40} {s:ByteArray}
theorem Av(D:l2.length≤1000000)(x:Int):∀(k i:Nat) (xs ys:List Int),i≤l2.length→iD.l0 k x xs i s l1 l2=some ys→ys.length=xs.length+cnt (l2.drop i) (true,x)
  |0,i,xs,ys,_,h=>by simp[iD.l0]at h
  |k+1,i,xs,ys,hi,h=>by
    rw[iD.l0]at h
    by_cases c:i<l2.length
    · rw[if_pos (by omega),if_pos (by omega),FU c,rT i (by omega)]at h
      rw[D7 c];by_cases e:l2[i].f0=x
      · rw[if_pos e]at h
        split at h
        (case isFalse=>cases h);have:=Av D x k (i+1) _ ys c h;simp[e]at this⊢;omega
      · rw[if_neg e]at h
        have:=Av D x k (i+1) _ ys c h;simp[e]at this⊢;omega
    · rw[if_neg (by omega)]at h
      rw[FP (by omega),←Option.some.inj h];rfl
theorem CF(D:l2.length≤1000000)(x:Int):∀(k i:Nat) (xs ys:List Int),i≤l2.length→iM.l0 k x xs i s l1 l2=some ys→ys.length=xs.length+cnt (l2.drop i) (false,x)
  |0,i,xs,ys,_,h=>by simp[iM.l0]at h
  |k+1,i,xs,ys,hi,h=>by
    rw[iM.l0]at h
    by_cases c:i<l2.length
    · rw[if_pos (by omega),if_pos (by omega),FU c,rT i (by omega)]at h
      rw[D7 c];by_cases e:l2[i].f1=x
      · rw[if_pos e]at h
        split at h
        (case isFalse=>cases h);have:=CF D x k (i+1) _ ys c h;simp[e]at this⊢;omega
      · rw[if_neg e]at h
        have:=CF D x k (i+1) _ ys c h;simp[e]at this⊢;omega
    · rw[if_neg (by omega)]at h
      rw[FP (by omega),←Option.some.inj h];rfl
theorem FE(D:l2.length≤1000000){k:Nat}{x:Int}{ys:List Int}(h:iD.f k s l1 l2 x=some ys):ys.length=cnt l2 (true,x):=by
  have:=Av D x k 0 [] ys (Nat.zero_le _) h;simpa using this
theorem Ll(D:l2.length≤1000000){k:Nat}{x:Int}{ys:List Int}(h:iM.f k s l1 l2 x=some ys):ys.length=cnt l2 (false,x):=by
  have:=CF D x k 0 [] ys (Nat.zero_le _) h;simpa using this
theorem JX(hl:l1.length≤1000000)(X:l2.length≤1000000)(hk:∀m:Int,inL l1 m→(nd l1 m).f0≠0){k:Nat}{n t:Int}(h:iU.f k s l1 l2 n=some t):
    0≤wrap64 (n-1)∧wrap64 (n-1)<(l2.length:Int)∧∃x y is D,
      rW.f s l1 l2 (iR l2 (wrap64 (n-1))).f0=some (x.f0,x.f1,x.f2,x.f3,x.f4,is)∧rW.f s l1 l2 (iR l2 (wrap64 (n-1))).f1=some (y.f0,y.f1,y.f2,y.f3,y.f4,D)∧
      gfE is D x y (iR l2 (wrap64 (n-1))) (cnt l2 (true,(iR l2 (wrap64 (n-1))).f0))=t:=by
  unfold iU.f at h
  split at h
  case isFalse=>cases h
  rename_i G
  refine⟨G.1,G.2,?_⟩;generalize iR l2 (wrap64 (n-1))=f at*;rw[rV hl,rV hl]at h;simp only[Option.bind_some]at h;obtain⟨_,U,h⟩:=Option.bind_eq_some_iff.mp h;rw[FE X U]at h;refine⟨atS l1 f.f0,atS l1 f.f1,decide (inL l1 f.f0),decide (inL l1 f.f1),at_eq hl _,at_eq hl _,?_⟩;rw[←Option.some.inj h,Mr];unfold gfE;by_cases h1:inL l1 f.f0
  · have I:iC l1 f.f0=(nd l1 f.f0).f0:=if_pos h1
    have n1:=hk _ h1;by_cases h2:inL l1 f.f1
    · have L:iC l1 f.f1=(nd l1 f.f1).f0:=if_pos h2
      have n2:=hk _ h2;rw[BQ h1,BQ h2,I,L,if_neg n1,if_neg n2];simp only[h1,h2,decide_true,Bool.true_eq_false,if_false];rfl
    · have L:iC l1 f.f1=0:=if_neg h2
      rw[I,L,if_neg n1];simp[h1,h2]
  · have I:iC l1 f.f0=0:=if_neg h1
    rw[I];simp[h1]
theorem Iq(hl:l1.length≤1000000)(hf:l2.length≤1000000){k:Nat}{n:Int}(hn:inL l1 n){t:Bool}(h:ig.f k s l1 l2 n=some t):shE (iH l1 (wrap64 (n-1))).f0 (cnt l2 (false,n)) (cnt l2 (true,n))=t:=by
  unfold ig.f at h;obtain⟨is,hi,h⟩:=Option.bind_eq_some_iff.mp h;obtain⟨_,ho,h⟩:=Option.bind_eq_some_iff.mp h;rw[rV hl]at h;simp only[Option.bind_some]at h;rw[Ll hf hi,FE hf ho]at h;have k1:iC l1 n=(iH l1 (wrap64 (n-1))).f0:=if_pos hn;rw[k1]at h;generalize(iH l1 (wrap64 (n-1))).f0=a at*;generalize cnt l2 (false,n)=i at*;generalize cnt l2 (true,n)=o at*;have aa:∀m:Nat,((m:Int)==0)=(m==0):=fun m=>by rw[Bool.eq_iff_iff,beq_iff_eq,beq_iff_eq];omega
  have X:∀m:Nat,((m:Int)==1)=(m==1):=fun m=>by rw[Bool.eq_iff_iff,beq_iff_eq,beq_iff_eq];omega
  have Z:∀m:Nat,((m:Int)=0)=(m=0):=fun m=>by rw[eq_iff_iff];omega
  have U:∀m:Nat,((m:Int)=1)=(m=1):=fun m=>by rw[eq_iff_iff];omega
  have ab:∀m:Nat,((m:Int)≥2)=(2≤m):=fun m=>by rw[eq_iff_iff];omega
  cases k with
  |zero=>split at h<;>simp[ig.j0]at h
  |succ k=>
    simp only[ig.j0,aa,X,Z,U,ab]at h;unfold shE;by_cases Y:a=1
    · subst Y
      by_cases e:i=0
      · simp[e]at h⊢;exact h
      · have D:(i==0)=false:=beq_eq_false_iff_ne.mpr e
        simp[e,D]at h⊢;exact h
    · by_cases a8:a=8
      · subst a8
        by_cases e:i=0
        · simp[e]at h⊢;exact h
        · have D:(i==0)=false:=beq_eq_false_iff_ne.mpr e
          simp[e,D]at h⊢;exact h
      · by_cases a2:a=2
        · subst a2
          by_cases e:i=1
          · simp[e]at h⊢;exact h
          · have D:(i==1)=false:=beq_eq_false_iff_ne.mpr e
            simp[e,D]at h⊢;exact h
        · by_cases I:a=9
          · subst I
            by_cases e:i=0
            · simp[e]at h⊢;exact h
            · have D:(i==0)=false:=beq_eq_false_iff_ne.mpr e
              simp[e,D]at h⊢;exact h
          · by_cases a5:a=5
            · subst a5
              by_cases e:i=1
              · by_cases G:2≤o<;>simp[e,G]at h⊢ <;>exact h
              · have D:(i==1)=false:=beq_eq_false_iff_ne.mpr e
                by_cases G:2≤i<;>simp[e,G,D]at h⊢ <;>exact h
            · by_cases L:a=6
              · subst L
                by_cases e:i=1
                · by_cases G:2≤o<;>simp[e,G]at h⊢ <;>exact h
                · have D:(i==1)=false:=beq_eq_false_iff_ne.mpr e
                  by_cases G:2≤i<;>simp[e,G,D]at h⊢ <;>exact h
              · by_cases e:i=1
                · simp[e,Y,a8,a2,I,a5,L]at h⊢;exact h
                · have D:(i==1)=false:=beq_eq_false_iff_ne.mpr e
                  simp[e,D,Y,a8,a2,I,a5,L]at h⊢;exact h
theorem zK(hl:l1.length≤1000000)(x:Int):∀(k i:Nat) (xs ys:List Int),i≤l1.length→(∀z∈xs,inL l1 z)→iE.l0 k x xs i s l1 l2=some ys→∀z∈ys,inL l1 z
  |0,i,xs,ys,_,_,h=>by simp[iE.l0]at h
  |k+1,i,xs,ys,hi,hx,h=>by
    rw[iE.l0]at h
    by_cases c:i<l1.length
    · rw[if_pos (by omega),if_pos (by omega),rT i (by omega)]at h
      split at h
      · split at h
        (case isFalse=>cases h);refine zK hl x k (i+1) _ ys c (fun z D=>?_) h;rcases List.mem_append.mp D with D|D
        · exact hx z D
        · rw[List.mem_singleton.mp D];exact⟨by omega,by omega⟩
      · exact zK hl x k (i+1) _ ys c hx h
    · rw[if_neg (by omega)]at h
      rw[←Option.some.inj h];exact hx
theorem Il(hl:l1.length≤1000000)(b1 b2:Int)(L:List Int)(D:∀z∈L,inL l1 z):∀(k:Nat) (a b m j:Int),iG.l0 k a b L m j s l1 l2=kQ.l0 k a b L m j s l1 l2 b1 b2
  |0,_,_,_,_=>by simp[iG.l0,kQ.l0]
  |k+1,a,b,m,j=>by
    simp only[iG.l0,kQ.l0,rV hl,Option.bind_some,Il hl b1 b2 L D k]
    by_cases c1:j<m
    · rw[if_pos c1,if_pos c1]
      by_cases c2:0≤j
      · rw[if_pos c2,if_pos c2]
        by_cases c3:j<(L.length:Int)
        · rw[if_pos c3,if_pos c3]
          have I:rd L j∈L:=by
            unfold rd;rw[List.getD_eq_getElem?_getD,List.getElem?_eq_getElem (show j.toNat<L.length by omega)];exact List.getElem_mem _
          have hi:=D _ I;obtain⟨_,p,q⟩:=zw hl hi;rw[if_pos p,if_pos q];have G:iC l1 (rd L j)=(iH l1 (wrap64 (rd L j-1))).f0:=if_pos hi;rw[G];generalize(iH l1 (wrap64 (rd L j-1))).f0=v;by_cases v1:v=1
          · subst v1;simp
          · simp[v1]
        · rw[if_neg c3,if_neg c3]
      · rw[if_neg c2,if_neg c2]
    · rw[if_neg c1,if_neg c1]
theorem IJ(hl:l1.length≤1000000)(b1 b2:Int){k:Nat}{n:Int}{t:Bool}(h:iG.f k s l1 l2 n=some t):kQ.f k s l1 l2 b1 b2 n=some t:=by
  unfold iG.f at h;obtain⟨L,D,h⟩:=Option.bind_eq_some_iff.mp h;unfold kQ.f uR.f;rw[D];simp only[Option.bind_some];rw[←Il hl b1 b2 L (zK hl n k 0 [] L (Nat.zero_le _) (by simp) D)];exact h
end
end Go.Proofs.Gr
