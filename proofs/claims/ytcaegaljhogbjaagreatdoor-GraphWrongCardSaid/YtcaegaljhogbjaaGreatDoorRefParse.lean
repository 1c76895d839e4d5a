/- The reference's reader of guards, walked by hand: its small methods. -/
import Derived.Test.YtcaegaljhogbjaaGreatDoorGuardWalk
set_option linter.unusedSimpArgs false
set_option linter.unusedVariables false
set_option maxHeartbeats 8000000
namespace Go.Proofs.Rg
open RowKit Lib Go.Sort PW PL PM G Gd
def Sr(w1:World)(N B n:Nat)(bad:Bool)(L:List kD)(wc:World):Prop:=
  ∃(A:Option Addr) (c:Nat) (v:Value) (xs L0:List kD) (i:Nat),eD (wc.heap[B]?=some (.cells #[.slice A L0.length c,v, .int .i64 (i:Int), .bool bad] 93 (0,0)))∧eD (L=L0.drop i∧i≤L0.length∧L0.length≤1000∧L0.length=N)∧eD (tq.C w1 A L0.length L0)∧eD (tq.R 118 wc w1.heap.size (fun _=>True) v xs)∧eD (xs.length+L.length≤n)∧eD (w1.heap.size≤B)∧eD (Below w1.heap.size w1 wc)
theorem Sr.below{w1 wc w':World}{N:Nat}{B n:Nat}{bad:Bool}{L:List kD}(h:Sr w1 N B n bad L wc)(D:Below wc.heap.size wc w'):Sr w1 N B n bad L w':=by
  obtain⟨A,c,v,xs,X,i,h1,h2,G,U,I,Z,Y⟩:=h;exact⟨A,c,v,xs,X,i,⟨iW h1.out D⟩,h2,G,⟨Kd.qJ U.out D⟩,I,Z,⟨kg Y.out D⟩⟩
theorem Sr.drew{w1 wc:World}{N:Nat}{B n:Nat}{bad:Bool}{L:List kD}(h:Sr w1 N B n bad L wc):Sr w1 N B n bad L wc.drew:=h.below (eZ (Below.refl _ _))
theorem Sr.mono{w1 wc:World}{N:Nat}{B n m:Nat}{bad:Bool}{L:List kD}(h:Sr w1 N B n bad L wc)(G:n≤m):Sr w1 N B m bad L wc:=by
  obtain⟨A,c,v,xs,X,i,h1,h2,D,U,I,Z,Y⟩:=h;exact⟨A,c,v,xs,X,i,h1,h2,D,U,⟨Nat.le_trans I.out G⟩,Z,Y⟩
theorem Sr.pos{w1 wc:World}{N:Nat}{B n:Nat}{bad:Bool}{x:kD}{l:List kD}(h:Sr w1 N B n bad (x::l) wc):∃n',n=n'+1:=by
  obtain⟨A,c,v,xs,_,i,h1,_,_,_,D,_,_⟩:=h;exact⟨n-1,by have:=D.out;rw[List.length_cons]at this;omega⟩
theorem xW:∀q,q∈118::tq.E→q≠93:=by
  intro q D;have e:q=118:=by simpa[show tq.E=[]from rfl]using D
  subst e;decide
theorem Sr.bad{w1 wc:World}{N:Nat}{B n:Nat}{bad:Bool}{L:List kD}(h:Sr w1 N B n bad L wc):wc.cell? ⟨B,3,none⟩=some (.bool bad)∧wc.frozen? ⟨B,3,none⟩=false:=by
  obtain⟨A,c,v,xs,_,i,h1,_,_,_,_,_,_⟩:=h;exact⟨iF h1.out 3,iP h1.out 3⟩
theorem Sr.wrong{w1 wc:World}{N:Nat}{B n:Nat}{bad:Bool}{L:List kD}(h:Sr w1 N B n bad L wc):Sr w1 N B n true L (wc.setCell ⟨B,3,none⟩ (.bool true))∧Lib.OthersKept 118 (some B) wc (wc.setCell ⟨B,3,none⟩ (.bool true)):=by
  obtain⟨A,c,v,xs,X,i,h1,h2,G,U,I,D,Y⟩:=h;exact⟨⟨A,c,v,xs,X,i,⟨eY h1.out 3 _ rfl⟩,h2,G,⟨Kd.wL U.out h1.out xW 3 _⟩,I,D,⟨kr Y.out D.out⟩⟩,Lib.OthersKept.setCell (Lib.OthersKept.refl _ _ _) ⟨B,3,none⟩ rfl _⟩
theorem Sr.on{w1 wc:World}{N:Nat}{B n:Nat}{bad:Bool}{x:kD}{l:List kD}(h:Sr w1 N B (n+1) bad (x::l) wc):∃(i i1:Int),wc.cell? ⟨B,2,none⟩=some (.int .i64 i)∧wc.frozen? ⟨B,2,none⟩=false∧IntKind.i64.wrap (i+1)=i1∧wrap64 (i+1)=i1∧Sr w1 N B n bad l (wc.setCell ⟨B,2,none⟩ (.int .i64 i1))∧Lib.OthersKept 118 (some B) wc (wc.setCell ⟨B,2,none⟩ (.int .i64 i1)):=by
  obtain⟨A,c,v,xs,I,i,h1,h2,X,Z,Y,L,h7⟩:=h;obtain⟨G,_,U⟩:=h2.out;have D:i<I.length:=by
    have:=congrArg List.length G;rw[List.length_drop,List.length_cons]at this;omega
  have hl:l=I.drop (i+1):=by
    rw[List.drop_eq_getElem_cons D]at G;exact(List.cons.inj G).2
  refine⟨(i:Int),((i+1:Nat):Int),iF h1.out 2,iP h1.out 2,by rw[IntKind.wrap_i64];omega,by unfold wrap64;omega,⟨A,c,v,xs,I,i+1,⟨eY h1.out 2 _ rfl⟩,⟨hl,by omega,U⟩,X,⟨Kd.wL Z.out h1.out xW 2 _⟩,⟨by have:=Y.out;rw[List.length_cons]at this;omega⟩,L,⟨kr h7.out L.out⟩⟩,Lib.OthersKept.setCell (Lib.OthersKept.refl _ _ _) ⟨B,2,none⟩ rfl _⟩
theorem Sr.done{w1 wc:World}{N:Nat}{B n:Nat}{bad:Bool}(h:Sr w1 N B n bad [] wc):∃(A:Option Addr) (m c:Nat) (i:Int),wc.cell? ⟨B,0,none⟩=some (.slice A m c)∧wc.cell? ⟨B,2,none⟩=some (.int .i64 i)∧¬i<(m:Int):=by
  obtain⟨A,c,v,xs,D,i,h1,h2,_,_,_,_,_⟩:=h;obtain⟨G,_,_⟩:=h2.out;have:D.length≤i:=by have:=congrArg List.length G;rw[List.length_drop,List.length_nil]at this;omega
  exact⟨A,D.length,c,(i:Int),iF h1.out 0,iF h1.out 2,by omega⟩
theorem Sr.next{w1 wc:World}{N:Nat}{B n:Nat}{bad:Bool}{x:kD}{l:List kD}(h:Sr w1 N B n bad (x::l) wc):∃(ad:Addr) (m c:Nat) (i:Int),wc.cell? ⟨B,0,none⟩=some (.slice (some ad) m c)∧wc.cell? ⟨B,2,none⟩=some (.int .i64 i)∧0≤i∧i<(m:Int)∧wc.cell? (ad.add (i.toNat*2))=some (.int .i64 x.f0)∧wc.cell? ⟨(ad.add (i.toNat*2)).block,(ad.add (i.toNat*2)).off+1,none⟩=some (.int .i64 x.f1):=by
  obtain⟨A,c,v,xs,I,i,h1,h2,L,_,_,_,U⟩:=h;obtain⟨G,_,_⟩:=h2.out;have D:i<I.length:=by
    have:=congrArg List.length G;rw[List.length_drop,List.length_cons]at this;omega
  have X:wI I (i:Int)=x:=by
    rw[List.drop_eq_getElem_cons D]at G;unfold wI;rw[Int.toNat_natCast,List.getD_eq_getElem?_getD,List.getElem?_eq_getElem D];exact((List.cons.inj G).1).symm
  obtain⟨ad,rfl,d0,d1⟩:=wH (Kd.iT L.out U.out) (i:Int) (by omega) (by omega);rw[X]at d0 d1;exact⟨ad,I.length,c,(i:Int),iF h1.out 0,iF h1.out 2,by omega,by omega,d0,d1⟩
def Du(w1:World)(N:Nat)(wc:World)(B n:Nat)(r:Option (List kD))(e:Ending)(w':World):Prop:=
  e= .returned (.tuple #[])∧Lib.OthersKept 118 (some B) wc w'∧(match r with|some l=>Sr w1 N B n false l w'|none=>∃l,Sr w1 N B n true l w')
theorem qB(kd:Int){w1 wc:World}{N:Nat}{B n:Nat}{bad:Bool}{L:List kD}(h:Sr w1 N B n bad L wc):
    Calls Tryz.prog 88 #[.pointer (some ⟨B,0,none⟩), .int .i64 kd] wc fun e w'=>e= .returned (.bool (sees kd L))∧Below wc.heap.size wc w':=by
  cases L with
  |nil=>
    obtain⟨A,m,c,i,D,c2,_⟩:=h.drew.done;have G:wc.cell? ⟨B,0,none⟩=some (.slice A m c):=D;have b2:wc.cell? ⟨B,2,none⟩=some (.int .i64 i):=c2;go_enter Tryz.func88,Tryz.ntmps88;go_upto_region 1 with fail;go_region;all_goals(go_wp2;go_ret;exact⟨rfl,eZ (Below.refl _ _)⟩)
  |cons x l=>
    obtain⟨ad,m,c,i,D,c2,_,_,d0,_⟩:=h.drew.next;have G:wc.cell? ⟨B,0,none⟩=some (.slice (some ad) m c):=D;have b2:wc.cell? ⟨B,2,none⟩=some (.int .i64 i):=c2;have I:wc.cell? (ad.add (i.toNat*2))=some (.int .i64 x.f0):=d0;go_enter Tryz.func88,Tryz.ntmps88;go_upto_region 1 with fail;go_region;all_goals(go_wp2;go_ret;exact⟨rfl,eZ (Below.refl _ _)⟩)
theorem kS(kd:Int){w1 wc:World}{N:Nat}{B n:Nat}{bad:Bool}{L:List kD}(hn:n≤1000)(h:Sr w1 N B n bad L wc):
    Calls Tryz.prog 89 #[.pointer (some ⟨B,0,none⟩), .int .i64 kd] wc fun e w'=>e= .returned (.tuple #[])∧Sr w1 N B (n+1) bad L w'∧Lib.OthersKept 118 (some B) wc w':=by
  obtain⟨A,c,v,xs,L0,i,h1,h2,h3,h4,h5,h6,h7⟩:=h;have c1:wc.cell? ⟨B,1,none⟩=some v:=iF h1.out 1;have ae:xs.length≤1000:=by have:=h5.out;omega
  have X:=mk0 (Kd.sH h4.out h1.out (by decide));go_enter Tryz.func89,Tryz.ntmps89;go_wp2_with(first|((with_reducible refine kW (b:= .append) (xs:=#[.tmp 8, .tmp 11]) rfl ?_);(try(refine qg (by rfl) ?_;dsimp only));at_builtin;refine Kd.rF tq (w0:=w1) w1.heap.size rfl (.tmp 8) (.tmp 11) 71 118 (.agg #[(.int .i64 0),(.int .i64 0)]) 16 rfl Tryz.underlying71 uG rfl (by decide) (by omega) v xs (⟨kd,0⟩:kD) [.int .i64 kd, .int .i64 0] (fun _=>True) (fun _=>False) rfl rfl ?aP (fun _ hk=>hk.elim) ?aF ?aO ?aB ?aS ?aL ?_;(case aP=>exact tF _ _ _ (⟨kd,0⟩:kD));(case aB=>exact h7.out);(case aF=>exact(fun _ _=>trivial));(case aO=>exact h4.out);(case aS=>exact kN h7.out);(case aL=>omega);intro v1 w3 ho hb Y aa;obtain⟨_,_,rfl⟩:=Kd.qw ho;have ab:=mk0 hb;have I:=mk0 (Lib.OthersKept.grown (Lib.OthersKept.refl 118 (some B) wc) Y (fun g U=>by obtain⟨cells,hc⟩:=Kd.uE h4.out g U;exact⟨cells,_,hc⟩));have Z:=mk0 ho;have D:=mk0 (qD h1.out Y X.out);have ag:w3.cell? ⟨B,1,none⟩=some v:=iF D.out 1;have ah:w3.frozen? ⟨B,1,none⟩=false:=iP D.out 1;clear hb ho Y aa));go_end0;have af:=h5.out;have G:=Z.out;rw[List.length_append,List.length_singleton]at G;exact⟨rfl,⟨A,c,_,xs++[⟨kd,0⟩],L0,i,⟨eY D.out 1 _ rfl⟩,h2,h3,⟨Kd.wL G D.out xW 1 _⟩,⟨by rw[List.length_append,List.length_singleton];omega⟩,h6,⟨kr ab.out h6.out⟩⟩,Lib.OthersKept.setCell I.out ⟨B,1,none⟩ rfl _⟩
theorem xI(kd:Int){w1 wc:World}{N:Nat}{B n:Nat}{bad:Bool}{L:List kD}(h:Sr w1 N B n bad L wc):
    Calls Tryz.prog 133 #[.pointer (some ⟨B,0,none⟩), .int .i64 kd] wc fun e w'=>e= .returned (.tuple #[])∧Lib.OthersKept 118 (some B) wc w'∧(match pass kd L with|some l=>Sr w1 N B n bad l w'|none=>Sr w1 N B n true L w'):=by
  have G:=mk0 h;have X:eD (Lib.OthersKept 118 (some B) wc wc):=⟨Lib.OthersKept.refl _ _ _⟩
  cases hb:sees kd L with
  |false=>
    rw[Ct hb];clear h;go_enter Tryz.func133,Tryz.ntmps133;go_wp2_with((go_at_call 88;(with_reducible refine(qB _ G.out).mono ?_);rintro e wx⟨rfl,D⟩;have I:=mk0 (G.out.below D);have U:=mk0 (X.out.trans (iB D));clear G X D;have G:=I;have X:=U;clear I U;obtain⟨_,_⟩:=G.out.bad;have hw:=G.out.wrong));(first|go_end0|refine bodyPost_ret (results_none rfl _ _ _) rfl ?_);exact⟨rfl,X.out.trans hw.2,hw.1⟩
  |true=>
    obtain⟨x,l,rfl,hx,Z⟩:=uO hb;obtain⟨_,rfl⟩:=h.pos;rw[Z];clear h hx Z;go_enter Tryz.func133,Tryz.ntmps133;go_wp2_with((go_at_call 88;(with_reducible refine(qB _ G.out).mono ?_);rintro e wx⟨rfl,D⟩;have I:=mk0 (G.out.below D);have U:=mk0 (X.out.trans (iB D));clear G X D;have G:=I;have X:=U;clear I U;obtain⟨i,_,_,_,_,_,hA,Y⟩:=G.out.on;have HA:=mk0 hA;have aa:=mk0 Y;clear hA Y));(first|go_end0|refine bodyPost_ret (results_none rfl _ _ _) rfl ?_);exact⟨rfl,X.out.trans aa.out,HA.out.mono (Nat.le_succ _)⟩
def fid:NT→FuncId
  | .guard=>65
  | .some=>87
  | .one=>112
  | .sum=>134
  | .product=>150
  | .factor=>155
def Told(w1:World)(N B:Nat)(k:Nat):Prop:=
  ∀(D:NT) (L:List kD) (r:Option (List kD)) (wc:World) (n:Nat),n≤999→Sr w1 N B n false L wc→gd k D L=some r→Calls Tryz.prog (fid D) #[.pointer (some ⟨B,0,none⟩)] wc (Du w1 N wc B n r)
theorem yL(a z:Int):[a].contains z=(z==a):=by rw[Bool.eq_iff_iff];simp
theorem La(a b z:Int):[a,b].contains z=(z==a||z==b):=by rw[Bool.eq_iff_iff];simp
theorem yc{w1:World}{N:Nat}{B k:Nat}(ih:Told w1 N B k)(L:List kD)(r:Option (List kD))(wc:World)(n:Nat)(hn:n≤999)(h:Sr w1 N B n false L wc)(hr:gd (k+1) .guard L=some r):
    Calls Tryz.prog 65 #[.pointer (some ⟨B,0,none⟩)] wc (Du w1 N wc B n r):=by
  unfold Gd.gd row at hr;cases ht:gd k .some L with
  |none=>rw[ht]at hr;cases hr
  |some r1=>
    rw[ht]at hr;have HC:=mk0 (ih .some L r1 wc n hn h ht)
    have HR:eD ((r1=none∧r=none)∨∃l,r1=some l∧rows (gd k .some) [13] k l=some r):=⟨by
      cases r1 with
      |none=>cases hr;exact Or.inl ⟨rfl,rfl⟩
      |some l=>exact Or.inr ⟨l,rfl,hr⟩⟩
    clear ht h hr;go_enter Tryz.func65,Tryz.ntmps65;go_wp2_with(go_at_call 87;(refine HC.out.mono ?_);rintro e w2⟨rfl,ao,an⟩;have ap:=mk0 ao;have aq:=mk0 an;clear ao an);go_loopg [] (k) (fun kq wr=>∃(L:List kD) (bad:Bool),eD (Lib.OthersKept 118 (some B) wc wr)∧eD (Sr w1 N B n bad L wr)∧eD ((bad=true∧r=none)∨(bad=false∧rows (gd k .some) [13] kq L=some r)))
    case atStart=>
      rcases HR.out with⟨rfl,rfl⟩|⟨l,rfl,h⟩
      · obtain⟨l,hs⟩:=aq.out
        exact⟨l,true,ap,⟨hs⟩,⟨Or.inl ⟨rfl,rfl⟩⟩⟩
      · exact⟨l,false,ap,⟨aq.out⟩,⟨Or.inr ⟨rfl,h⟩⟩⟩
    case round=>
      clear HC HR;obtain⟨L,bad,X,I,HB⟩:=hrel;obtain⟨_,_⟩:=I.out.bad;rcases HB.out with⟨rfl,rfl⟩|⟨rfl,h⟩
      · go_wp2
        go_end0;exact⟨rfl,X.out,⟨L,I.out⟩⟩
      · obtain⟨k',am⟩:∃k',gk=k'+1:=by
          cases gk with
          |zero=>cases h
          |succ m=>exact⟨m,rfl⟩
        have ag:=mk0 am
        rw[am]at h
        clear am HB
        cases L with
        |nil=>
          (have hr:r=some []:=by cases h;rfl);clear h;have s1:sees 13 []=false:=rfl;go_wp2_with((go_at_call 88;(with_reducible refine(qB _ I.out).mono ?_);rintro e wx⟨rfl,D⟩;have U:=mk0 (I.out.below D);have G:=mk0 (X.out.trans (iB D));clear I X D;have I:=U;have X:=G;clear U G;skip));go_end0;rw[hr];exact⟨rfl,X.out,I.out⟩
        |cons x l=>
          cases hc:([13]:List Int).contains x.f0 with
          |false=>
            have hr:r=some (x::l):=by
              unfold rows at h;rw[if_neg (by rw[hc];exact Bool.false_ne_true)]at h;cases h;rfl
            clear h;(have s1:sees 13 (x::l)=false:=by rw[←hc,yL];rfl);clear hc;go_wp2_with((go_at_call 88;(with_reducible refine(qB _ I.out).mono ?_);rintro e wx⟨rfl,D⟩;have U:=mk0 (I.out.below D);have G:=mk0 (X.out.trans (iB D));clear I X D;have I:=U;have X:=G;clear U G;skip));go_end0;rw[hr];exact⟨rfl,X.out,I.out⟩
          |true=>
            unfold rows at h;rw[if_pos hc]at h;obtain⟨n',ar⟩:=I.out.pos;subst ar;cases ht:gd k .some l with
            |none=>rw[ht]at h;cases h
            |some r1=>
              rw[ht]at h;have HI:=mk0 (fun w' hs=>ih .some l r1 w' n' (by omega) hs ht);cases r1 with
              |none=>
                cases h;clear ht;(have s1:sees 13 (x::l)=true:=by rw[←hc,yL];rfl);(have hx:x.f0=13:=by rw[yL]at hc;exact beq_iff_eq.mp hc);clear hc;go_wp2_with(first|(go_at_call 88;(with_reducible refine(qB _ I.out).mono ?_);rintro e wx⟨rfl,D⟩;have U:=mk0 (I.out.below D);have G:=mk0 (X.out.trans (iB D));clear I X D;have I:=U;have X:=G;clear U G;obtain⟨i,i1,c2,f2,wa,wb,hA,Z⟩:=I.out.on;have HA:=mk0 hA;have al:=mk0 (X.out.trans Z);clear hA Z)|(go_at_call 87;(refine(HI.out _ HA.out).mono ?_);rintro e wy⟨rfl,aa,ae⟩;have aj:=mk0 (al.out.trans aa);obtain⟨l2,af⟩:=ae;have ah:=mk0 af;clear aa af)|(go_at_call 89;(with_reducible refine(kS _ (by omega) ah.out).mono ?_);rintro e wz⟨rfl,ab,Y⟩;have ak:=mk0 ab;have ai:=mk0 (aj.out.trans Y);clear ab Y));go_roundg (gk-1);(case measure=>have:=ag.out;omega);case rel=>exact⟨_,true,ai,ak,⟨by first|exact Or.inl ⟨rfl,rfl⟩|exact Or.inl ⟨rfl,trivial⟩⟩⟩
              |some l2=>
                have H2:=mk0 h;clear ht h;(have s1:sees 13 (x::l)=true:=by rw[←hc,yL];rfl);(have hx:x.f0=13:=by rw[yL]at hc;exact beq_iff_eq.mp hc);clear hc;go_wp2_with(first|(go_at_call 88;(with_reducible refine(qB _ I.out).mono ?_);rintro e wx⟨rfl,D⟩;have U:=mk0 (I.out.below D);have G:=mk0 (X.out.trans (iB D));clear I X D;have I:=U;have X:=G;clear U G;obtain⟨i,i1,c2,f2,wa,wb,hA,Z⟩:=I.out.on;have HA:=mk0 hA;have al:=mk0 (X.out.trans Z);clear hA Z)|(go_at_call 87;(refine(HI.out _ HA.out).mono ?_);rintro e wy⟨rfl,aa,ae⟩;have aj:=mk0 (al.out.trans aa);have ah:=mk0 ae;clear aa ae)|(go_at_call 89;(with_reducible refine(kS _ (by omega) ah.out).mono ?_);rintro e wz⟨rfl,ab,Y⟩;have ak:=mk0 ab;have ai:=mk0 (aj.out.trans Y);clear ab Y));go_roundg (gk-1);case measure=>have:=ag.out;omega
                case rel=>
                  (have e:gk-1=k':=by have:=ag.out;omega);rw[e];exact⟨l2,false,ai,ak,⟨Or.inr ⟨rfl,H2.out⟩⟩⟩
theorem yM{w1:World}{N:Nat}{B k:Nat}(ih:Told w1 N B k)(L:List kD)(r:Option (List kD))(wc:World)(n:Nat)(hn:n≤999)(h:Sr w1 N B n false L wc)(hr:gd (k+1) .some L=some r):
    Calls Tryz.prog 87 #[.pointer (some ⟨B,0,none⟩)] wc (Du w1 N wc B n r):=by
  unfold Gd.gd row at hr;cases ht:gd k .one L with
  |none=>rw[ht]at hr;cases hr
  |some r1=>
    rw[ht]at hr;have HC:=mk0 (ih .one L r1 wc n hn h ht)
    have HR:eD ((r1=none∧r=none)∨∃l,r1=some l∧rows (gd k .one) [12] k l=some r):=⟨by
      cases r1 with
      |none=>cases hr;exact Or.inl ⟨rfl,rfl⟩
      |some l=>exact Or.inr ⟨l,rfl,hr⟩⟩
    clear ht h hr;go_enter Tryz.func87,Tryz.ntmps87;go_wp2_with(go_at_call 112;(refine HC.out.mono ?_);rintro e w2⟨rfl,ao,an⟩;have ap:=mk0 ao;have aq:=mk0 an;clear ao an);go_loopg [] (k) (fun kq wr=>∃(L:List kD) (bad:Bool),eD (Lib.OthersKept 118 (some B) wc wr)∧eD (Sr w1 N B n bad L wr)∧eD ((bad=true∧r=none)∨(bad=false∧rows (gd k .one) [12] kq L=some r)))
    case atStart=>
      rcases HR.out with⟨rfl,rfl⟩|⟨l,rfl,h⟩
      · obtain⟨l,hs⟩:=aq.out
        exact⟨l,true,ap,⟨hs⟩,⟨Or.inl ⟨rfl,rfl⟩⟩⟩
      · exact⟨l,false,ap,⟨aq.out⟩,⟨Or.inr ⟨rfl,h⟩⟩⟩
    case round=>
      clear HC HR;obtain⟨L,bad,X,I,HB⟩:=hrel;obtain⟨_,_⟩:=I.out.bad;rcases HB.out with⟨rfl,rfl⟩|⟨rfl,h⟩
      · go_wp2
        go_end0;exact⟨rfl,X.out,⟨L,I.out⟩⟩
      · obtain⟨k',am⟩:∃k',gk=k'+1:=by
          cases gk with
          |zero=>cases h
          |succ m=>exact⟨m,rfl⟩
        have ag:=mk0 am
        rw[am]at h
        clear am HB
        cases L with
        |nil=>
          (have hr:r=some []:=by cases h;rfl);clear h;have s1:sees 12 []=false:=rfl;go_wp2_with((go_at_call 88;(with_reducible refine(qB _ I.out).mono ?_);rintro e wx⟨rfl,D⟩;have U:=mk0 (I.out.below D);have G:=mk0 (X.out.trans (iB D));clear I X D;have I:=U;have X:=G;clear U G;skip));go_end0;rw[hr];exact⟨rfl,X.out,I.out⟩
        |cons x l=>
          cases hc:([12]:List Int).contains x.f0 with
          |false=>
            have hr:r=some (x::l):=by
              unfold rows at h;rw[if_neg (by rw[hc];exact Bool.false_ne_true)]at h;cases h;rfl
            clear h;(have s1:sees 12 (x::l)=false:=by rw[←hc,yL];rfl);clear hc;go_wp2_with((go_at_call 88;(with_reducible refine(qB _ I.out).mono ?_);rintro e wx⟨rfl,D⟩;have U:=mk0 (I.out.below D);have G:=mk0 (X.out.trans (iB D));clear I X D;have I:=U;have X:=G;clear U G;skip));go_end0;rw[hr];exact⟨rfl,X.out,I.out⟩
          |true=>
            unfold rows at h;rw[if_pos hc]at h;obtain⟨n',ar⟩:=I.out.pos;subst ar;cases ht:gd k .one l with
            |none=>rw[ht]at h;cases h
            |some r1=>
              rw[ht]at h;have HI:=mk0 (fun w' hs=>ih .one l r1 w' n' (by omega) hs ht);cases r1 with
              |none=>
                cases h;clear ht;(have s1:sees 12 (x::l)=true:=by rw[←hc,yL];rfl);(have hx:x.f0=12:=by rw[yL]at hc;exact beq_iff_eq.mp hc);clear hc;go_wp2_with(first|(go_at_call 88;(with_reducible refine(qB _ I.out).mono ?_);rintro e wx⟨rfl,D⟩;have U:=mk0 (I.out.below D);have G:=mk0 (X.out.trans (iB D));clear I X D;have I:=U;have X:=G;clear U G;obtain⟨i,i1,c2,f2,wa,wb,hA,Z⟩:=I.out.on;have HA:=mk0 hA;have al:=mk0 (X.out.trans Z);clear hA Z)|(go_at_call 112;(refine(HI.out _ HA.out).mono ?_);rintro e wy⟨rfl,aa,ae⟩;have aj:=mk0 (al.out.trans aa);obtain⟨l2,af⟩:=ae;have ah:=mk0 af;clear aa af)|(go_at_call 89;(with_reducible refine(kS _ (by omega) ah.out).mono ?_);rintro e wz⟨rfl,ab,Y⟩;have ak:=mk0 ab;have ai:=mk0 (aj.out.trans Y);clear ab Y));go_roundg (gk-1);(case measure=>have:=ag.out;omega);case rel=>exact⟨_,true,ai,ak,⟨by first|exact Or.inl ⟨rfl,rfl⟩|exact Or.inl ⟨rfl,trivial⟩⟩⟩
              |some l2=>
                have H2:=mk0 h;clear ht h;(have s1:sees 12 (x::l)=true:=by rw[←hc,yL];rfl);(have hx:x.f0=12:=by rw[yL]at hc;exact beq_iff_eq.mp hc);clear hc;go_wp2_with(first|(go_at_call 88;(with_reducible refine(qB _ I.out).mono ?_);rintro e wx⟨rfl,D⟩;have U:=mk0 (I.out.below D);have G:=mk0 (X.out.trans (iB D));clear I X D;have I:=U;have X:=G;clear U G;obtain⟨i,i1,c2,f2,wa,wb,hA,Z⟩:=I.out.on;have HA:=mk0 hA;have al:=mk0 (X.out.trans Z);clear hA Z)|(go_at_call 112;(refine(HI.out _ HA.out).mono ?_);rintro e wy⟨rfl,aa,ae⟩;have aj:=mk0 (al.out.trans aa);have ah:=mk0 ae;clear aa ae)|(go_at_call 89;(with_reducible refine(kS _ (by omega) ah.out).mono ?_);rintro e wz⟨rfl,ab,Y⟩;have ak:=mk0 ab;have ai:=mk0 (aj.out.trans Y);clear ab Y));go_roundg (gk-1);case measure=>have:=ag.out;omega
                case rel=>
                  (have e:gk-1=k':=by have:=ag.out;omega);rw[e];exact⟨l2,false,ai,ak,⟨Or.inr ⟨rfl,H2.out⟩⟩⟩
theorem wX{w1:World}{N:Nat}{B k:Nat}(ih:Told w1 N B k)(L:List kD)(r:Option (List kD))(wc:World)(n:Nat)(hn:n≤999)(h:Sr w1 N B n false L wc)(hr:gd (k+1) .product L=some r):
    Calls Tryz.prog 150 #[.pointer (some ⟨B,0,none⟩)] wc (Du w1 N wc B n r):=by
  unfold Gd.gd row at hr;cases ht:gd k .factor L with
  |none=>rw[ht]at hr;cases hr
  |some r1=>
    rw[ht]at hr;have HC:=mk0 (ih .factor L r1 wc n hn h ht)
    have HR:eD ((r1=none∧r=none)∨∃l,r1=some l∧rows (gd k .factor) [5] k l=some r):=⟨by
      cases r1 with
      |none=>cases hr;exact Or.inl ⟨rfl,rfl⟩
      |some l=>exact Or.inr ⟨l,rfl,hr⟩⟩
    clear ht h hr;go_enter Tryz.func150,Tryz.ntmps150;go_wp2_with(go_at_call 155;(refine HC.out.mono ?_);rintro e w2⟨rfl,ao,an⟩;have ap:=mk0 ao;have aq:=mk0 an;clear ao an);go_loopg [] (k) (fun kq wr=>∃(L:List kD) (bad:Bool),eD (Lib.OthersKept 118 (some B) wc wr)∧eD (Sr w1 N B n bad L wr)∧eD ((bad=true∧r=none)∨(bad=false∧rows (gd k .factor) [5] kq L=some r)))
    case atStart=>
      rcases HR.out with⟨rfl,rfl⟩|⟨l,rfl,h⟩
      · obtain⟨l,hs⟩:=aq.out
        exact⟨l,true,ap,⟨hs⟩,⟨Or.inl ⟨rfl,rfl⟩⟩⟩
      · exact⟨l,false,ap,⟨aq.out⟩,⟨Or.inr ⟨rfl,h⟩⟩⟩
    case round=>
      clear HC HR;obtain⟨L,bad,X,I,HB⟩:=hrel;obtain⟨_,_⟩:=I.out.bad;rcases HB.out with⟨rfl,rfl⟩|⟨rfl,h⟩
      · go_wp2
        go_end0;exact⟨rfl,X.out,⟨L,I.out⟩⟩
      · obtain⟨k',am⟩:∃k',gk=k'+1:=by
          cases gk with
          |zero=>cases h
          |succ m=>exact⟨m,rfl⟩
        have ag:=mk0 am
        rw[am]at h
        clear am HB
        cases L with
        |nil=>
          (have hr:r=some []:=by cases h;rfl);clear h;have s1:sees 5 []=false:=rfl;go_wp2_with((go_at_call 88;(with_reducible refine(qB _ I.out).mono ?_);rintro e wx⟨rfl,D⟩;have U:=mk0 (I.out.below D);have G:=mk0 (X.out.trans (iB D));clear I X D;have I:=U;have X:=G;clear U G;skip));go_end0;rw[hr];exact⟨rfl,X.out,I.out⟩
        |cons x l=>
          cases hc:([5]:List Int).contains x.f0 with
          |false=>
            have hr:r=some (x::l):=by
              unfold rows at h;rw[if_neg (by rw[hc];exact Bool.false_ne_true)]at h;cases h;rfl
            clear h;(have s1:sees 5 (x::l)=false:=by rw[←hc,yL];rfl);clear hc;go_wp2_with((go_at_call 88;(with_reducible refine(qB _ I.out).mono ?_);rintro e wx⟨rfl,D⟩;have U:=mk0 (I.out.below D);have G:=mk0 (X.out.trans (iB D));clear I X D;have I:=U;have X:=G;clear U G;skip));go_end0;rw[hr];exact⟨rfl,X.out,I.out⟩
          |true=>
            unfold rows at h;rw[if_pos hc]at h;obtain⟨n',ar⟩:=I.out.pos;subst ar;cases ht:gd k .factor l with
            |none=>rw[ht]at h;cases h
            |some r1=>
              rw[ht]at h;have HI:=mk0 (fun w' hs=>ih .factor l r1 w' n' (by omega) hs ht);cases r1 with
              |none=>
                cases h;clear ht;(have s1:sees 5 (x::l)=true:=by rw[←hc,yL];rfl);(have hx:x.f0=5:=by rw[yL]at hc;exact beq_iff_eq.mp hc);clear hc;go_wp2_with(first|(go_at_call 88;(with_reducible refine(qB _ I.out).mono ?_);rintro e wx⟨rfl,D⟩;have U:=mk0 (I.out.below D);have G:=mk0 (X.out.trans (iB D));clear I X D;have I:=U;have X:=G;clear U G;obtain⟨i,i1,c2,f2,wa,wb,hA,Z⟩:=I.out.on;have HA:=mk0 hA;have al:=mk0 (X.out.trans Z);clear hA Z)|(go_at_call 155;(refine(HI.out _ HA.out).mono ?_);rintro e wy⟨rfl,aa,ae⟩;have aj:=mk0 (al.out.trans aa);obtain⟨l2,af⟩:=ae;have ah:=mk0 af;clear aa af)|(go_at_call 89;(with_reducible refine(kS _ (by omega) ah.out).mono ?_);rintro e wz⟨rfl,ab,Y⟩;have ak:=mk0 ab;have ai:=mk0 (aj.out.trans Y);clear ab Y));go_roundg (gk-1);(case measure=>have:=ag.out;omega);case rel=>exact⟨_,true,ai,ak,⟨by first|exact Or.inl ⟨rfl,rfl⟩|exact Or.inl ⟨rfl,trivial⟩⟩⟩
              |some l2=>
                have H2:=mk0 h;clear ht h;(have s1:sees 5 (x::l)=true:=by rw[←hc,yL];rfl);(have hx:x.f0=5:=by rw[yL]at hc;exact beq_iff_eq.mp hc);clear hc;go_wp2_with(first|(go_at_call 88;(with_reducible refine(qB _ I.out).mono ?_);rintro e wx⟨rfl,D⟩;have U:=mk0 (I.out.below D);have G:=mk0 (X.out.trans (iB D));clear I X D;have I:=U;have X:=G;clear U G;obtain⟨i,i1,c2,f2,wa,wb,hA,Z⟩:=I.out.on;have HA:=mk0 hA;have al:=mk0 (X.out.trans Z);clear hA Z)|(go_at_call 155;(refine(HI.out _ HA.out).mono ?_);rintro e wy⟨rfl,aa,ae⟩;have aj:=mk0 (al.out.trans aa);have ah:=mk0 ae;clear aa ae)|(go_at_call 89;(with_reducible refine(kS _ (by omega) ah.out).mono ?_);rintro e wz⟨rfl,ab,Y⟩;have ak:=mk0 ab;have ai:=mk0 (aj.out.trans Y);clear ab Y));go_roundg (gk-1);case measure=>have:=ag.out;omega
                case rel=>
                  (have e:gk-1=k':=by have:=ag.out;omega);rw[e];exact⟨l2,false,ai,ak,⟨Or.inr ⟨rfl,H2.out⟩⟩⟩
theorem zG{w1:World}{N:Nat}{B k:Nat}(ih:Told w1 N B k)(L:List kD)(r:Option (List kD))(wc:World)(n:Nat)(hn:n≤999)(h:Sr w1 N B n false L wc)(hr:gd (k+1) .sum L=some r):
    Calls Tryz.prog 134 #[.pointer (some ⟨B,0,none⟩)] wc (Du w1 N wc B n r):=by
  unfold Gd.gd row at hr;cases ht:gd k .product L with
  |none=>rw[ht]at hr;cases hr
  |some r1=>
    rw[ht]at hr;have HC:=mk0 (ih .product L r1 wc n hn h ht)
    have HR:eD ((r1=none∧r=none)∨∃l,r1=some l∧rows (gd k .product) [3,4] k l=some r):=⟨by
      cases r1 with
      |none=>cases hr;exact Or.inl ⟨rfl,rfl⟩
      |some l=>exact Or.inr ⟨l,rfl,hr⟩⟩
    clear ht h hr;go_enter Tryz.func134,Tryz.ntmps134;go_wp2_with(go_at_call 150;(refine HC.out.mono ?_);rintro e w2⟨rfl,ar,aq⟩;have au:=mk0 ar;have av:=mk0 aq;clear ar aq);go_loopg [2] (k) (fun kq v2 wr=>∃(L:List kD) (bad:Bool),eD (Lib.OthersKept 118 (some B) wc wr)∧eD (Sr w1 N B n bad L wr)∧eD ((bad=true∧r=none)∨(bad=false∧rows (gd k .product) [3,4] kq L=some r)))
    case atStart=>
      rcases HR.out with⟨rfl,rfl⟩|⟨l,rfl,h⟩
      · obtain⟨l,hs⟩:=av.out
        exact⟨l,true,au,⟨hs⟩,⟨Or.inl ⟨rfl,rfl⟩⟩⟩
      · exact⟨l,false,au,⟨av.out⟩,⟨Or.inr ⟨rfl,h⟩⟩⟩
    case round=>
      clear HC HR;obtain⟨L,bad,X,G,HB⟩:=hrel;obtain⟨_,_⟩:=G.out.bad;rcases HB.out with⟨rfl,rfl⟩|⟨rfl,h⟩
      · go_wp2
        go_end0;exact⟨rfl,X.out,⟨L,G.out⟩⟩
      · obtain⟨k',ap⟩:∃k',gk=k'+1:=by
          cases gk with
          |zero=>cases h
          |succ m=>exact⟨m,rfl⟩
        have am:=mk0 ap
        rw[ap]at h
        clear ap HB
        cases L with
        |nil=>
          (have hr:r=some []:=by cases h;rfl);clear h;have s1:sees 3 []=false:=rfl;have s2:sees 4 []=false:=rfl;go_wp2_with((go_at_call 88;(with_reducible refine(qB _ G.out).mono ?_);rintro e wx⟨rfl,D⟩;have U:=mk0 (G.out.below D);have I:=mk0 (X.out.trans (iB D));clear G X D;have G:=U;have X:=I;clear U I;skip));go_end0;rw[hr];exact⟨rfl,X.out,G.out⟩
        |cons x l=>
          cases hc:([3,4]:List Int).contains x.f0 with
          |false=>
            have hr:r=some (x::l):=by
              unfold rows at h;rw[if_neg (by rw[hc];exact Bool.false_ne_true)]at h;cases h;rfl
            clear h;(have ao:(x.f0==3)=false∧(x.f0==4)=false:=by rw[La]at hc;exact Bool.or_eq_false_iff.mp hc);have s1:sees 3 (x::l)=false:=ao.1;have s2:sees 4 (x::l)=false:=ao.2;clear ao;clear hc;go_wp2_with((go_at_call 88;(with_reducible refine(qB _ G.out).mono ?_);rintro e wx⟨rfl,D⟩;have U:=mk0 (G.out.below D);have I:=mk0 (X.out.trans (iB D));clear G X D;have G:=U;have X:=I;clear U I;skip));go_end0;rw[hr];exact⟨rfl,X.out,G.out⟩
          |true=>
            unfold rows at h;rw[if_pos hc]at h;obtain⟨n',aw⟩:=G.out.pos;subst aw;cases ht:gd k .product l with
            |none=>rw[ht]at h;cases h
            |some r1=>
              rw[ht]at h;have HI:=mk0 (fun w' hs=>ih .product l r1 w' n' (by omega) hs ht);cases r1 with
              |none=>
                cases h;clear ht;(have an:x.f0=3∨x.f0=4:=by rw[La]at hc;rcases Bool.or_eq_true_iff.mp hc with e|e;exact Or.inl (beq_iff_eq.mp e);exact Or.inr (beq_iff_eq.mp e));clear hc;rcases an with hx|hx
                · have s1:sees 3 (x::l)=true:=by show(x.f0==3)=_;rw[hx];rfl
                  (go_upto_region 2 with((go_at_call 88;(with_reducible refine(qB _ G.out).mono ?_);rintro e wx⟨rfl,D⟩;have U:=mk0 (G.out.below D);have I:=mk0 (X.out.trans (iB D));clear G X D;have G:=U;have X:=I;clear U I;skip)));obtain⟨ad,m,c,j,q0,q2,j0,jm,d0,d1⟩:=G.out.drew.next;have p0:wx.cell? ⟨B,0,none⟩=some (.slice (some ad) m c):=q0;have p2:wx.cell? ⟨B,2,none⟩=some (.int .i64 j):=q2;have p4:wx.cell? (ad.add (j.toNat*2))=some (.int .i64 x.f0):=d0;obtain⟨i,i1,c2,f2,wa,wb,hA,Y⟩:=G.out.on;(have ak:i=j:=by rw[c2]at p2;cases p2;rfl);subst ak;have HA:=mk0 hA.drew;have aj:=mk0 ((X.out.trans Y).trans (iB (eZ (Below.refl _ _))));clear hA Y c2;go_region;go_wp2_with(first|(go_at_call 150;(refine(HI.out _ HA.out).mono ?_);rintro e wy⟨rfl,Z,ae⟩;have ag:=mk0 (aj.out.trans Z);obtain⟨l2,af⟩:=ae;have ah:=mk0 af;clear Z af)|(go_at_call 89;(with_reducible refine(kS _ (by omega) ah.out).mono ?_);rintro e wz⟨rfl,ab,aa⟩;have al:=mk0 ab;have ai:=mk0 (ag.out.trans aa);clear ab aa));go_roundg (gk-1);(case measure=>have:=am.out;omega);case rel=>exact⟨_,true,ai,al,⟨by first|exact Or.inl ⟨rfl,rfl⟩|exact Or.inl ⟨rfl,trivial⟩⟩⟩
                · have s1:sees 3 (x::l)=false:=by show(x.f0==3)=_;rw[hx];rfl
                  (have s2:sees 4 (x::l)=true:=by show(x.f0==4)=_;rw[hx];rfl);(go_upto_region 2 with((go_at_call 88;(with_reducible refine(qB _ G.out).mono ?_);rintro e wx⟨rfl,D⟩;have U:=mk0 (G.out.below D);have I:=mk0 (X.out.trans (iB D));clear G X D;have G:=U;have X:=I;clear U I;skip)));obtain⟨ad,m,c,j,q0,q2,j0,jm,d0,d1⟩:=G.out.drew.next;have p0:wx.cell? ⟨B,0,none⟩=some (.slice (some ad) m c):=q0;have p2:wx.cell? ⟨B,2,none⟩=some (.int .i64 j):=q2;have p4:wx.cell? (ad.add (j.toNat*2))=some (.int .i64 x.f0):=d0;obtain⟨i,i1,c2,f2,wa,wb,hA,Y⟩:=G.out.on;(have ak:i=j:=by rw[c2]at p2;cases p2;rfl);subst ak;have HA:=mk0 hA.drew;have aj:=mk0 ((X.out.trans Y).trans (iB (eZ (Below.refl _ _))));clear hA Y c2;go_region;go_wp2_with(first|(go_at_call 150;(refine(HI.out _ HA.out).mono ?_);rintro e wy⟨rfl,Z,ae⟩;have ag:=mk0 (aj.out.trans Z);obtain⟨l2,af⟩:=ae;have ah:=mk0 af;clear Z af)|(go_at_call 89;(with_reducible refine(kS _ (by omega) ah.out).mono ?_);rintro e wz⟨rfl,ab,aa⟩;have al:=mk0 ab;have ai:=mk0 (ag.out.trans aa);clear ab aa));go_roundg (gk-1);(case measure=>have:=am.out;omega);case rel=>exact⟨_,true,ai,al,⟨by first|exact Or.inl ⟨rfl,rfl⟩|exact Or.inl ⟨rfl,trivial⟩⟩⟩
              |some l2=>
                have H2:=mk0 h;clear ht h;(have an:x.f0=3∨x.f0=4:=by rw[La]at hc;rcases Bool.or_eq_true_iff.mp hc with e|e;exact Or.inl (beq_iff_eq.mp e);exact Or.inr (beq_iff_eq.mp e));clear hc;rcases an with hx|hx
                · have s1:sees 3 (x::l)=true:=by show(x.f0==3)=_;rw[hx];rfl
                  (go_upto_region 2 with((go_at_call 88;(with_reducible refine(qB _ G.out).mono ?_);rintro e wx⟨rfl,D⟩;have U:=mk0 (G.out.below D);have I:=mk0 (X.out.trans (iB D));clear G X D;have G:=U;have X:=I;clear U I;skip)));obtain⟨ad,m,c,j,q0,q2,j0,jm,d0,d1⟩:=G.out.drew.next;have p0:wx.cell? ⟨B,0,none⟩=some (.slice (some ad) m c):=q0;have p2:wx.cell? ⟨B,2,none⟩=some (.int .i64 j):=q2;have p4:wx.cell? (ad.add (j.toNat*2))=some (.int .i64 x.f0):=d0;obtain⟨i,i1,c2,f2,wa,wb,hA,Y⟩:=G.out.on;(have ak:i=j:=by rw[c2]at p2;cases p2;rfl);subst ak;have HA:=mk0 hA.drew;have aj:=mk0 ((X.out.trans Y).trans (iB (eZ (Below.refl _ _))));clear hA Y c2;go_region;go_wp2_with(first|(go_at_call 150;(refine(HI.out _ HA.out).mono ?_);rintro e wy⟨rfl,Z,ae⟩;have ag:=mk0 (aj.out.trans Z);have ah:=mk0 ae;clear Z ae)|(go_at_call 89;(with_reducible refine(kS _ (by omega) ah.out).mono ?_);rintro e wz⟨rfl,ab,aa⟩;have al:=mk0 ab;have ai:=mk0 (ag.out.trans aa);clear ab aa));go_roundg (gk-1);case measure=>have:=am.out;omega
                  case rel=>
                    (have e:gk-1=k':=by have:=am.out;omega);rw[e];exact⟨l2,false,ai,al,⟨Or.inr ⟨rfl,H2.out⟩⟩⟩
                · have s1:sees 3 (x::l)=false:=by show(x.f0==3)=_;rw[hx];rfl
                  (have s2:sees 4 (x::l)=true:=by show(x.f0==4)=_;rw[hx];rfl);(go_upto_region 2 with((go_at_call 88;(with_reducible refine(qB _ G.out).mono ?_);rintro e wx⟨rfl,D⟩;have U:=mk0 (G.out.below D);have I:=mk0 (X.out.trans (iB D));clear G X D;have G:=U;have X:=I;clear U I;skip)));obtain⟨ad,m,c,j,q0,q2,j0,jm,d0,d1⟩:=G.out.drew.next;have p0:wx.cell? ⟨B,0,none⟩=some (.slice (some ad) m c):=q0;have p2:wx.cell? ⟨B,2,none⟩=some (.int .i64 j):=q2;have p4:wx.cell? (ad.add (j.toNat*2))=some (.int .i64 x.f0):=d0;obtain⟨i,i1,c2,f2,wa,wb,hA,Y⟩:=G.out.on;(have ak:i=j:=by rw[c2]at p2;cases p2;rfl);subst ak;have HA:=mk0 hA.drew;have aj:=mk0 ((X.out.trans Y).trans (iB (eZ (Below.refl _ _))));clear hA Y c2;go_region;go_wp2_with(first|(go_at_call 150;(refine(HI.out _ HA.out).mono ?_);rintro e wy⟨rfl,Z,ae⟩;have ag:=mk0 (aj.out.trans Z);have ah:=mk0 ae;clear Z ae)|(go_at_call 89;(with_reducible refine(kS _ (by omega) ah.out).mono ?_);rintro e wz⟨rfl,ab,aa⟩;have al:=mk0 ab;have ai:=mk0 (ag.out.trans aa);clear ab aa));go_roundg (gk-1);case measure=>have:=am.out;omega
                  case rel=>
                    (have e:gk-1=k':=by have:=am.out;omega);rw[e];exact⟨l2,false,ai,al,⟨Or.inr ⟨rfl,H2.out⟩⟩⟩
theorem zM{w1:World}{N:Nat}{B k:Nat}(ih:Told w1 N B k)(L:List kD)(r:Option (List kD))(wc:World)(n:Nat)(hn:n≤999)(h:Sr w1 N B n false L wc)(hr:gd (k+1) .one L=some r):
    Calls Tryz.prog 112 #[.pointer (some ⟨B,0,none⟩)] wc (Du w1 N wc B n r):=by
  unfold Gd.gd at hr;have Z:=mk0 h;have HO:eD (Lib.OthersKept 118 (some B) wc wc):=⟨Lib.OthersKept.refl _ _ _⟩
  obtain⟨c3,f3⟩:=h.bad;cases h14:sees 14 L with
  |true=>
    rw[if_pos h14]at hr;obtain⟨x,l,rfl,hx,aq⟩:=uO h14;obtain⟨n',rfl⟩:=h.pos;have HI:=mk0 (fun w' hs=>ih .one l r w' n' (by omega) hs hr);clear h hr hx aq ih;cases r with
    |none=>
      go_enter Tryz.func112,Tryz.ntmps112;go_wp2_with(first|(go_at_call 88;(with_reducible refine(qB _ Z.out).mono ?_);rintro e wx⟨rfl,D⟩;have Y:=mk0 (Z.out.below D);have X:=mk0 (HO.out.trans (iB D));clear Z HO D;have Z:=Y;have HO:=X;clear Y X;obtain⟨i,i1,c2,f2,wa,wb,hA,ag⟩:=Z.out.on;have HA:=mk0 hA;have ak:=mk0 (HO.out.trans ag);clear hA ag)|(go_at_call 112;(refine(HI.out _ HA.out).mono ?_);rintro e wy⟨rfl,I,U⟩;have aa:=mk0 (ak.out.trans I);obtain⟨l2,af⟩:=U;have G:=mk0 af;clear I af)|(go_at_call 89;(with_reducible refine(kS 14 (by omega) G.out).mono ?_);rintro e wz⟨rfl,ae,ab⟩;have ah:=mk0 ae;have ai:=mk0 (aa.out.trans ab);clear ae ab));(first|go_end0|refine bodyPost_ret (results_none rfl _ _ _) rfl ?_);exact⟨rfl,ai.out,⟨_,ah.out⟩⟩
    |some l2=>
      go_enter Tryz.func112,Tryz.ntmps112;go_wp2_with(first|(go_at_call 88;(with_reducible refine(qB _ Z.out).mono ?_);rintro e wx⟨rfl,D⟩;have Y:=mk0 (Z.out.below D);have X:=mk0 (HO.out.trans (iB D));clear Z HO D;have Z:=Y;have HO:=X;clear Y X;obtain⟨i,i1,c2,f2,wa,wb,hA,ag⟩:=Z.out.on;have HA:=mk0 hA;have ak:=mk0 (HO.out.trans ag);clear hA ag)|(go_at_call 112;(refine(HI.out _ HA.out).mono ?_);rintro e wy⟨rfl,I,U⟩;have aa:=mk0 (ak.out.trans I);have G:=mk0 U;clear I U)|(go_at_call 89;(with_reducible refine(kS 14 (by omega) G.out).mono ?_);rintro e wz⟨rfl,ae,ab⟩;have ah:=mk0 ae;have ai:=mk0 (aa.out.trans ab);clear ae ab));(first|go_end0|refine bodyPost_ret (results_none rfl _ _ _) rfl ?_);exact⟨rfl,ai.out,ah.out⟩
  |false=>
    rw[if_neg (by rw[h14];exact Bool.false_ne_true)]at hr;cases h15:sees 15 L with
    |true=>
      rw[if_pos h15]at hr;obtain⟨x,l,rfl,hx,aq⟩:=uO h15;obtain⟨n',rfl⟩:=h.pos;clear h hx aq;cases hg:gd k .guard l with
      |none=>rw[show gd k .guard ((x::l).drop 1)=none from hg]at hr;cases hr
      |some r1=>
        rw[show gd k .guard ((x::l).drop 1)=some r1 from hg]at hr;have HI:=mk0 (fun w' hs=>ih .guard l r1 w' n' (by omega) hs hg);clear hg ih;cases r1 with
        |none=>
          cases hr;go_enter Tryz.func112,Tryz.ntmps112;go_wp2_with(first|(go_at_call 88;(with_reducible refine(qB _ Z.out).mono ?_);rintro e wx⟨rfl,D⟩;have Y:=mk0 (Z.out.below D);have X:=mk0 (HO.out.trans (iB D));clear Z HO D;have Z:=Y;have HO:=X;clear Y X;obtain⟨i,i1,c2,f2,wa,wb,hA,ag⟩:=Z.out.on;have HA:=mk0 hA;have ak:=mk0 (HO.out.trans ag);clear hA ag)|(go_at_call 65;(refine(HI.out _ HA.out).mono ?_);rintro e wy⟨rfl,I,U⟩;have aa:=mk0 (ak.out.trans I);obtain⟨l2,af⟩:=U;have G:=mk0 af;clear I af)|(go_at_call 133;(with_reducible refine(xI 16 G.out).mono ?_);rintro e wz⟨rfl,ab,ae⟩;have ah:=mk0 ae;have ai:=mk0 (aa.out.trans ab);clear ae ab));(first|go_end0|refine bodyPost_ret (results_none rfl _ _ _) rfl ?_);exact⟨rfl,ai.out,by cases hq:pass 16 l2 with|none=>exact⟨_,by have:=ah.out;rw[hq]at this;exact this.mono (Nat.le_succ _)⟩|some q=>exact⟨q,by have:=ah.out;rw[hq]at this;exact this.mono (Nat.le_succ _)⟩⟩
        |some l2=>
          (have ax:pass 16 l2=r:=by cases hr;rfl);clear hr;go_enter Tryz.func112,Tryz.ntmps112;go_wp2_with(first|(go_at_call 88;(with_reducible refine(qB _ Z.out).mono ?_);rintro e wx⟨rfl,D⟩;have Y:=mk0 (Z.out.below D);have X:=mk0 (HO.out.trans (iB D));clear Z HO D;have Z:=Y;have HO:=X;clear Y X;obtain⟨i,i1,c2,f2,wa,wb,hA,ag⟩:=Z.out.on;have HA:=mk0 hA;have ak:=mk0 (HO.out.trans ag);clear hA ag)|(go_at_call 65;(refine(HI.out _ HA.out).mono ?_);rintro e wy⟨rfl,I,U⟩;have aa:=mk0 (ak.out.trans I);have G:=mk0 U;clear I U)|(go_at_call 133;(with_reducible refine(xI 16 G.out).mono ?_);rintro e wz⟨rfl,ab,ae⟩;have ah:=mk0 ae;have ai:=mk0 (aa.out.trans ab);clear ae ab));(first|go_end0|refine bodyPost_ret (results_none rfl _ _ _) rfl ?_);refine⟨rfl,ai.out,?_⟩;have hz:=ah.out;rw[ax]at hz;cases r with
          |none=>exact⟨_,hz.mono (Nat.le_succ _)⟩
          |some q=>exact hz.mono (Nat.le_succ _)
    |false=>
      rw[if_neg (by rw[h15];exact Bool.false_ne_true)]at hr;cases hg:gd k .sum L with
      |none=>rw[hg]at hr;cases hr
      |some r1=>
        rw[hg]at hr;have HI:=mk0 (fun w' hs=>ih .sum L r1 w' n (by omega) hs hg);clear hg h;cases r1 with
        |none=>
          cases hr;go_enter Tryz.func112,Tryz.ntmps112;(go_upto_region 1 with(first|(go_at_call 88;(with_reducible refine(qB _ Z.out).mono ?_);rintro e wx⟨rfl,D⟩;have Y:=mk0 (Z.out.below D);have X:=mk0 (HO.out.trans (iB D));clear Z HO D;have Z:=Y;have HO:=X;clear Y X;skip)|(go_at_call 134;(refine(HI.out _ Z.out).mono ?_);rintro e wy⟨rfl,I,U⟩;have aa:=mk0 (HO.out.trans I);obtain⟨l2,af⟩:=U;have G:=mk0 af;clear I af)));obtain⟨k3,g3⟩:=G.out.bad;obtain⟨m3,j3⟩:=G.out.drew.bad;have HW:=mk0 G.out.drew.wrong;have aj:=mk0 (aa.out.trans (iB (eZ (Below.refl _ _))));go_region;all_goals(go_wp2;(first|go_end0|refine bodyPost_ret (results_none rfl _ _ _) rfl ?_);exact⟨rfl,aj.out.trans HW.out.2,⟨_,HW.out.1⟩⟩)
        |some l2=>
          cases l2 with
          |nil=>
            cases hr;go_enter Tryz.func112,Tryz.ntmps112;(go_upto_region 1 with(first|(go_at_call 88;(with_reducible refine(qB _ Z.out).mono ?_);rintro e wx⟨rfl,D⟩;have Y:=mk0 (Z.out.below D);have X:=mk0 (HO.out.trans (iB D));clear Z HO D;have Z:=Y;have HO:=X;clear Y X;skip)|(go_at_call 134;(refine(HI.out _ Z.out).mono ?_);rintro e wy⟨rfl,I,U⟩;have aa:=mk0 (HO.out.trans I);have G:=mk0 U;clear I U)));obtain⟨k3,g3⟩:=G.out.bad;obtain⟨m3,j3⟩:=G.out.drew.bad;obtain⟨A,m,c,j,q0,q2,_⟩:=G.out.done;have t0:wy.drew.cell? ⟨B,0,none⟩=some (.slice A m c):=q0;have t2:wy.drew.cell? ⟨B,2,none⟩=some (.int .i64 j):=q2;(have an:(m:Int)≤j:=by omega);have HW:=mk0 G.out.drew.wrong;have aj:=mk0 (aa.out.trans (iB (eZ (Below.refl _ _))));go_region;all_goals(go_wp2;(first|go_end0|refine bodyPost_ret (results_none rfl _ _ _) rfl ?_);exact⟨rfl,aj.out.trans HW.out.2,⟨_,HW.out.1⟩⟩)
          |cons x l3=>
            have hm:(if compares x.f0=true then gd k .sum l3 else some none)=some r:=hr;clear hr;by_cases h6:x.f0<6
            · have al:compares x.f0=false:=by unfold compares;rw[decide_eq_false (by omega)];rfl
              rw[if_neg (by rw[al];exact Bool.false_ne_true)]at hm;cases hm;clear al;have av:decide (x.f0<6)=true:=decide_eq_true h6;go_enter Tryz.func112,Tryz.ntmps112;(go_upto_region 1 with(first|(go_at_call 88;(with_reducible refine(qB _ Z.out).mono ?_);rintro e wx⟨rfl,D⟩;have Y:=mk0 (Z.out.below D);have X:=mk0 (HO.out.trans (iB D));clear Z HO D;have Z:=Y;have HO:=X;clear Y X;skip)|(go_at_call 134;(refine(HI.out _ Z.out).mono ?_);rintro e wy⟨rfl,I,U⟩;have aa:=mk0 (HO.out.trans I);have G:=mk0 U;clear I U)));obtain⟨k3,g3⟩:=G.out.bad;obtain⟨ad,m,c,j,q0,q2,j0,jm,q4,d1⟩:=G.out.next;have an:decide ((m:Int)≤j)=false:=decide_eq_false (by omega);clear HI h15 h14;go_quiet(fail);have am:=G.out.below (eP (Below.refl _ _) nq);obtain⟨m3,j3⟩:=am.bad;have HW:=mk0 am.wrong;have aj:=mk0 (aa.out.trans (iB (eP (Below.refl _ _) nq)));go_wp2;(first|go_end0|refine bodyPost_ret (results_none rfl _ _ _) rfl ?_);exact⟨rfl,aj.out.trans HW.out.2,⟨_,HW.out.1⟩⟩
            · by_cases au:11<x.f0
              · have al:compares x.f0=false:=by unfold compares;rw[decide_eq_false (show ¬x.f0≤11 by omega),Bool.and_false]
                rw[if_neg (by rw[al];exact Bool.false_ne_true)]at hm;cases hm;clear al;have av:decide (x.f0<6)=false:=decide_eq_false h6;have aw:decide (11<x.f0)=true:=decide_eq_true au;go_enter Tryz.func112,Tryz.ntmps112;(go_upto_region 1 with(first|(go_at_call 88;(with_reducible refine(qB _ Z.out).mono ?_);rintro e wx⟨rfl,D⟩;have Y:=mk0 (Z.out.below D);have X:=mk0 (HO.out.trans (iB D));clear Z HO D;have Z:=Y;have HO:=X;clear Y X;skip)|(go_at_call 134;(refine(HI.out _ Z.out).mono ?_);rintro e wy⟨rfl,I,U⟩;have aa:=mk0 (HO.out.trans I);have G:=mk0 U;clear I U)));obtain⟨k3,g3⟩:=G.out.bad;obtain⟨ad,m,c,j,q0,q2,j0,jm,q4,d1⟩:=G.out.next;have an:decide ((m:Int)≤j)=false:=decide_eq_false (by omega);clear HI h15 h14;go_quiet(fail);have am:=G.out.below (eP (Below.refl _ _) nq);obtain⟨m3,j3⟩:=am.bad;have HW:=mk0 am.wrong;have aj:=mk0 (aa.out.trans (iB (eP (Below.refl _ _) nq)));go_wp2;(first|go_end0|refine bodyPost_ret (results_none rfl _ _ _) rfl ?_);exact⟨rfl,aj.out.trans HW.out.2,⟨_,HW.out.1⟩⟩
              · have al:compares x.f0=true:=by unfold compares;rw[decide_eq_true (show 6≤x.f0 by omega),decide_eq_true (show x.f0≤11 by omega)];rfl
                rw[if_pos al]at hm;have HJ:=mk0 (fun n' w' (ap:n'≤999) hs=>ih .sum l3 r w' n' ap hs hm);clear al hm ih;have av:decide (x.f0<6)=false:=decide_eq_false h6;have aw:decide (11<x.f0)=false:=decide_eq_false au;go_enter Tryz.func112,Tryz.ntmps112;(go_upto_region 1 with(first|(go_at_call 88;(with_reducible refine(qB _ Z.out).mono ?_);rintro e wx⟨rfl,D⟩;have Y:=mk0 (Z.out.below D);have X:=mk0 (HO.out.trans (iB D));clear Z HO D;have Z:=Y;have HO:=X;clear Y X;skip)|(go_at_call 134;(refine(HI.out _ Z.out).mono ?_);rintro e wy⟨rfl,I,U⟩;have aa:=mk0 (HO.out.trans I);have G:=mk0 U;clear I U)));obtain⟨k3,g3⟩:=G.out.bad;obtain⟨ad,m,c,j,q0,q2,j0,jm,q4,d1⟩:=G.out.next;have an:decide ((m:Int)≤j)=false:=decide_eq_false (by omega);clear HI h15 h14;go_quiet(fail);have ao:=mk0 (G.out.below (eP (Below.refl _ _) nq));have aj:=mk0 (aa.out.trans (iB (eP (Below.refl _ _) nq)));obtain⟨n',ap⟩:=G.out.pos;subst ap;clear G Z aa HO;(obtain⟨w5,ar⟩:∃w5,wy.drewN nq=w5:=⟨_,rfl⟩);rw[ar]at ao aj⊢;clear ar k3 g3 q0 q2 q4 d1 c3 f3 an;obtain⟨ad,m,c,j,t0,t2,j0,jm,d0,d1⟩:=ao.out.drew.next;have q0:w5.cell? ⟨B,0,none⟩=some (.slice (some ad) m c):=t0;have q2:w5.cell? ⟨B,2,none⟩=some (.int .i64 j):=t2;have q4:w5.cell? (ad.add (j.toNat*2))=some (.int .i64 x.f0):=d0;obtain⟨i,i1,c2,f2,wa,wb,hA,ag⟩:=ao.out.on;(have ay:i=j:=by rw[c2]at q2;cases q2;rfl);subst ay;have HA:=mk0 hA.drew;have ak:=mk0 ((aj.out.trans ag).trans (iB (eZ (Below.refl _ _))));clear hA ag c2;go_upto_region 3 with fail;go_region;cases r with
                |none=>
                  go_wp2_with(first|(go_at_call 134;(refine(HJ.out _ _ (by omega) HA.out).mono ?_);rintro e wy⟨rfl,I,U⟩;have aa:=mk0 (ak.out.trans I);obtain⟨l2,af⟩:=U;have G:=mk0 af;clear I af)|(go_at_call 89;(with_reducible refine(kS _ (by omega) G.out).mono ?_);rintro e wz⟨rfl,ae,ab⟩;have ah:=mk0 ae;have ai:=mk0 (aa.out.trans ab);clear ae ab));(first|go_end0|refine bodyPost_ret (results_none rfl _ _ _) rfl ?_);exact⟨rfl,ai.out,⟨_,ah.out⟩⟩
                |some l4=>
                  go_wp2_with(first|(go_at_call 134;(refine(HJ.out _ _ (by omega) HA.out).mono ?_);rintro e wy⟨rfl,I,U⟩;have aa:=mk0 (ak.out.trans I);have G:=mk0 U;clear I U)|(go_at_call 89;(with_reducible refine(kS _ (by omega) G.out).mono ?_);rintro e wz⟨rfl,ae,ab⟩;have ah:=mk0 ae;have ai:=mk0 (aa.out.trans ab);clear ae ab));(first|go_end0|refine bodyPost_ret (results_none rfl _ _ _) rfl ?_);exact⟨rfl,ai.out,ah.out⟩
theorem xE{w1:World}{N:Nat}{B k:Nat}(ih:Told w1 N B k)(L:List kD)(r:Option (List kD))(wc:World)(n:Nat)(hn:n≤999)(h:Sr w1 N B n false L wc)(hr:gd (k+1) .factor L=some r):
    Calls Tryz.prog 155 #[.pointer (some ⟨B,0,none⟩)] wc (Du w1 N wc B n r):=by
  unfold Gd.gd at hr;have U:=mk0 h;have Z:eD (Lib.OthersKept 118 (some B) wc wc):=⟨Lib.OthersKept.refl _ _ _⟩
  obtain⟨c3,f3⟩:=h.bad;cases h12:(sees 1 L||sees 2 L)with
  |true=>
    rw[if_pos h12]at hr;obtain⟨x,l,rfl⟩:∃x l,L=x::l:=by
      cases L with
      |nil=>cases h12
      |cons x l=>exact⟨x,l,rfl⟩
    cases hr;obtain⟨n',rfl⟩:=h.pos;clear h;show Calls _ _ _ _ (Du w1 N wc B (n'+1) (some l));cases h1:sees 1 (x::l)with
    |true=>
      clear h12;go_enter Tryz.func155,Tryz.ntmps155;(go_upto_region 3 with((go_at_call 88;(with_reducible refine(qB _ U.out).mono ?_);rintro e wx⟨rfl,D⟩;have I:=mk0 (U.out.below D);have G:=mk0 (Z.out.trans (iB D));clear U Z D;have U:=I;have Z:=G;clear I G;skip)));obtain⟨A,c,v,xs,L0,i,h1,h2,h3,h4,h5,h6,h7⟩:=U.out;have ax:=mk0 (Kd.sH h4.out h1.out (by decide));have HX:=mk0 (Kd.qG h4.out);have HY:=mk0 (eZ h7.out);have b1:=mk0 (vK h1.out);(have aA:xs.length≤1000:=by have:=h5.out;omega);have Y:w1.heap.size≤wx.drew.heap.size:=kN HY.out;obtain⟨ad,m,c',j,t0,t2,j0,jm,d0,d1⟩:=U.out.drew.next;have t1:wx.drew.cell? ⟨B,1,none⟩=some v:=iF b1.out 1;have q0:wx.cell? ⟨B,0,none⟩=some (.slice (some ad) m c'):=t0;have q1:wx.cell? ⟨B,1,none⟩=some v:=t1;have q2:wx.cell? ⟨B,2,none⟩=some (.int .i64 j):=t2;have q4:wx.cell? (ad.add (j.toNat*2))=some (.int .i64 x.f0):=d0;have q5:wx.cell? ⟨(ad.add (j.toNat*2)).block,(ad.add (j.toNat*2)).off+1,none⟩=some (.int .i64 x.f1):=d1;have q6:(wx.alloc (.cells #[.int .i64 x.f0, .int .i64 x.f1] 118)).cell? ⟨B,1,none⟩=some v:=iF (sG h1.out _) 1;go_region_law (first|((refine Kd.vC tq (w0:=w1) (W:=wx.drew) w1.heap.size rfl (.tmp 21) (.tmp 32) 71 118 (.agg #[(.int .i64 0),(.int .i64 0)]) 16 rfl Tryz.underlying71 uG rfl (by decide) (by omega) v xs x [.int .i64 x.f0, .int .i64 x.f1] (fun _=>True) (fun _=>False) (by simp[Act.eval,Act.put]) (by simp[Act.eval,Act.put]) (tF _ _ _ x) (fun _ hk=>hk.elim) (fun _ _=>trivial) HX.out HY.out Y (by omega) ?_);intro v1 w3 ho hb hg aC;obtain⟨A3,c4,rfl⟩:=Kd.qw ho;have ao:eD (tq.R 118 w3 w1.heap.size (fun _=>True) (.slice A3 (xs.length+1) c4) (xs++[x])):=⟨by rw[List.length_append,List.length_singleton]at ho;exact ho⟩;have au:=mk0 hb;have aq:=mk0 (Lib.OthersKept.grown (Lib.OthersKept.refl 118 (some B) wx.drew) hg (fun g av=>by obtain⟨cells,hc⟩:=Kd.uE HX.out g av;exact⟨cells,_,hc⟩));have ae:=mk0 (qD b1.out hg ax.out);have aw:w3.cell? ⟨B,1,none⟩=some v:=iF ae.out 1;have ay:w3.frozen? ⟨B,1,none⟩=false:=iP ae.out 1)|go_simp)
      all_goals
        have ar:(w3.setCell ⟨B,1,none⟩ (.slice A3 (xs.length+1) c4)).heap[B]?=some (.cells #[.slice A L0.length c, .slice A3 (xs.length+1) c4, .int .i64 (i:Int), .bool false] 93 (0,0)):=eY ae.out 1 _ rfl
        have al:Sr w1 N B (n'+1+1) false (x::l) (w3.setCell ⟨B,1,none⟩ (.slice A3 (xs.length+1) c4)):=⟨A,c,_,xs++[x],L0,i,⟨ar⟩,h2,h3,⟨Kd.wL ao.out ae.out xW 1 _⟩,⟨by have:=h5.out;rw[List.length_append,List.length_singleton];omega⟩,h6,⟨kr au.out h6.out⟩⟩
        have an:Lib.OthersKept 118 (some B) wc (w3.setCell ⟨B,1,none⟩ (.slice A3 (xs.length+1) c4)):=Lib.OthersKept.setCell ((Z.out.trans (iB (eZ (Below.refl _ _)))).trans aq.out) ⟨B,1,none⟩ rfl _
        obtain⟨w4,ap⟩:∃w4,w3.setCell ⟨B,1,none⟩ (.slice A3 (xs.length+1) c4)=w4:=⟨_,rfl⟩
        rw[ap]at al an⊢
        obtain⟨i9,i1,c2,f2,wa,wb,hA,X⟩:=al.on
        have HA:=mk0 hA
        have ab:=mk0 (an.trans X)
        clear hA X ar ap an al aw ay ae ao au aq q0 q1 q2 q4 q5 q6 t0 t1 t2 d0 d1 HX HY b1 h1 h2 h3 h4 h5 h7
        go_wp2
        go_end0
        exact⟨rfl,ab.out,HA.out⟩
    |false=>
      (have h2:sees 2 (x::l)=true:=by rw[h1]at h12;exact h12);clear h12;go_enter Tryz.func155,Tryz.ntmps155;(go_upto_region 3 with((go_at_call 88;(with_reducible refine(qB _ U.out).mono ?_);rintro e wx⟨rfl,D⟩;have I:=mk0 (U.out.below D);have G:=mk0 (Z.out.trans (iB D));clear U Z D;have U:=I;have Z:=G;clear I G;skip)));obtain⟨A,c,v,xs,L0,i,h1,h2,h3,h4,h5,h6,h7⟩:=U.out;have ax:=mk0 (Kd.sH h4.out h1.out (by decide));have HX:=mk0 (Kd.qG h4.out);have HY:=mk0 (eZ h7.out);have b1:=mk0 (vK h1.out);(have aA:xs.length≤1000:=by have:=h5.out;omega);have Y:w1.heap.size≤wx.drew.heap.size:=kN HY.out;obtain⟨ad,m,c',j,t0,t2,j0,jm,d0,d1⟩:=U.out.drew.next;have t1:wx.drew.cell? ⟨B,1,none⟩=some v:=iF b1.out 1;have q0:wx.cell? ⟨B,0,none⟩=some (.slice (some ad) m c'):=t0;have q1:wx.cell? ⟨B,1,none⟩=some v:=t1;have q2:wx.cell? ⟨B,2,none⟩=some (.int .i64 j):=t2;have q4:wx.cell? (ad.add (j.toNat*2))=some (.int .i64 x.f0):=d0;have q5:wx.cell? ⟨(ad.add (j.toNat*2)).block,(ad.add (j.toNat*2)).off+1,none⟩=some (.int .i64 x.f1):=d1;have q6:(wx.alloc (.cells #[.int .i64 x.f0, .int .i64 x.f1] 118)).cell? ⟨B,1,none⟩=some v:=iF (sG h1.out _) 1;go_region_law (first|((refine Kd.vC tq (w0:=w1) (W:=wx.drew) w1.heap.size rfl (.tmp 21) (.tmp 32) 71 118 (.agg #[(.int .i64 0),(.int .i64 0)]) 16 rfl Tryz.underlying71 uG rfl (by decide) (by omega) v xs x [.int .i64 x.f0, .int .i64 x.f1] (fun _=>True) (fun _=>False) (by simp[Act.eval,Act.put]) (by simp[Act.eval,Act.put]) (tF _ _ _ x) (fun _ hk=>hk.elim) (fun _ _=>trivial) HX.out HY.out Y (by omega) ?_);intro v1 w3 ho hb hg aC;obtain⟨A3,c4,rfl⟩:=Kd.qw ho;have ao:eD (tq.R 118 w3 w1.heap.size (fun _=>True) (.slice A3 (xs.length+1) c4) (xs++[x])):=⟨by rw[List.length_append,List.length_singleton]at ho;exact ho⟩;have au:=mk0 hb;have aq:=mk0 (Lib.OthersKept.grown (Lib.OthersKept.refl 118 (some B) wx.drew) hg (fun g av=>by obtain⟨cells,hc⟩:=Kd.uE HX.out g av;exact⟨cells,_,hc⟩));have ae:=mk0 (qD b1.out hg ax.out);have aw:w3.cell? ⟨B,1,none⟩=some v:=iF ae.out 1;have ay:w3.frozen? ⟨B,1,none⟩=false:=iP ae.out 1)|go_simp)
      all_goals
        have ar:(w3.setCell ⟨B,1,none⟩ (.slice A3 (xs.length+1) c4)).heap[B]?=some (.cells #[.slice A L0.length c, .slice A3 (xs.length+1) c4, .int .i64 (i:Int), .bool false] 93 (0,0)):=eY ae.out 1 _ rfl
        have al:Sr w1 N B (n'+1+1) false (x::l) (w3.setCell ⟨B,1,none⟩ (.slice A3 (xs.length+1) c4)):=⟨A,c,_,xs++[x],L0,i,⟨ar⟩,h2,h3,⟨Kd.wL ao.out ae.out xW 1 _⟩,⟨by have:=h5.out;rw[List.length_append,List.length_singleton];omega⟩,h6,⟨kr au.out h6.out⟩⟩
        have an:Lib.OthersKept 118 (some B) wc (w3.setCell ⟨B,1,none⟩ (.slice A3 (xs.length+1) c4)):=Lib.OthersKept.setCell ((Z.out.trans (iB (eZ (Below.refl _ _)))).trans aq.out) ⟨B,1,none⟩ rfl _
        obtain⟨w4,ap⟩:∃w4,w3.setCell ⟨B,1,none⟩ (.slice A3 (xs.length+1) c4)=w4:=⟨_,rfl⟩
        rw[ap]at al an⊢
        obtain⟨i9,i1,c2,f2,wa,wb,hA,X⟩:=al.on
        have HA:=mk0 hA
        have ab:=mk0 (an.trans X)
        clear hA X ar ap an al aw ay ae ao au aq q0 q1 q2 q4 q5 q6 t0 t1 t2 d0 d1 HX HY b1 h1 h2 h3 h4 h5 h7
        go_wp2
        go_end0
        exact⟨rfl,ab.out,HA.out⟩
  |false=>
    rw[if_neg (by rw[h12];exact Bool.false_ne_true)]at hr;(have h1:sees 1 L=false:=by cases h:sees 1 L with|false=>rfl|true=>rw[h]at h12;cases h12);(have h2:sees 2 L=false:=by cases h:sees 2 L with|false=>rfl|true=>rw[h,Bool.or_true]at h12;cases h12);clear h12;cases h4:sees 4 L with
    |true=>
      rw[if_pos h4]at hr;obtain⟨x,l,rfl,hx,az⟩:=uO h4;obtain⟨n',rfl⟩:=h.pos;have HI:=mk0 (fun w' hs=>ih .factor l r w' n' (by omega) hs hr);clear h hr hx az ih;cases r with
      |none=>
        go_enter Tryz.func155,Tryz.ntmps155;go_wp2_with(first|(go_at_call 88;(with_reducible refine(qB _ U.out).mono ?_);rintro e wx⟨rfl,D⟩;have I:=mk0 (U.out.below D);have G:=mk0 (Z.out.trans (iB D));clear U Z D;have U:=I;have Z:=G;clear I G;obtain⟨i,i1,c2,f2,wa,wb,hA,X⟩:=U.out.on;have HA:=mk0 hA;have ab:=mk0 (Z.out.trans X);clear hA X)|(go_at_call 155;(refine(HI.out _ HA.out).mono ?_);rintro e wy⟨rfl,af,ag⟩;have ak:=mk0 (ab.out.trans af);obtain⟨l2,ai⟩:=ag;have am:=mk0 ai;clear af ai)|(go_at_call 89;(with_reducible refine(kS 19 (by omega) am.out).mono ?_);rintro e wz⟨rfl,Y,aa⟩;have ah:=mk0 Y;have aj:=mk0 (ak.out.trans aa);clear Y aa));(first|go_end0|refine bodyPost_ret (results_none rfl _ _ _) rfl ?_);exact⟨rfl,aj.out,⟨_,ah.out⟩⟩
      |some l2=>
        go_enter Tryz.func155,Tryz.ntmps155;go_wp2_with(first|(go_at_call 88;(with_reducible refine(qB _ U.out).mono ?_);rintro e wx⟨rfl,D⟩;have I:=mk0 (U.out.below D);have G:=mk0 (Z.out.trans (iB D));clear U Z D;have U:=I;have Z:=G;clear I G;obtain⟨i,i1,c2,f2,wa,wb,hA,X⟩:=U.out.on;have HA:=mk0 hA;have ab:=mk0 (Z.out.trans X);clear hA X)|(go_at_call 155;(refine(HI.out _ HA.out).mono ?_);rintro e wy⟨rfl,af,ag⟩;have ak:=mk0 (ab.out.trans af);have am:=mk0 ag;clear af ag)|(go_at_call 89;(with_reducible refine(kS 19 (by omega) am.out).mono ?_);rintro e wz⟨rfl,Y,aa⟩;have ah:=mk0 Y;have aj:=mk0 (ak.out.trans aa);clear Y aa));(first|go_end0|refine bodyPost_ret (results_none rfl _ _ _) rfl ?_);exact⟨rfl,aj.out,ah.out⟩
    |false=>
      rw[if_neg (by rw[h4];exact Bool.false_ne_true)]at hr;cases h17:sees 17 L with
      |false=>
        rw[if_neg (by rw[h17];exact Bool.false_ne_true)]at hr;cases hr;clear h ih;go_enter Tryz.func155,Tryz.ntmps155;go_wp2_with((go_at_call 88;(with_reducible refine(qB _ U.out).mono ?_);rintro e wx⟨rfl,D⟩;have I:=mk0 (U.out.below D);have G:=mk0 (Z.out.trans (iB D));clear U Z D;have U:=I;have Z:=G;clear I G;obtain⟨c3,f3⟩:=U.out.bad;have hw:=mk0 U.out.wrong));(first|go_end0|refine bodyPost_ret (results_none rfl _ _ _) rfl ?_);exact⟨rfl,Z.out.trans hw.out.2,⟨_,hw.out.1⟩⟩
      |true=>
        rw[if_pos h17]at hr;obtain⟨x,l,rfl,hx,az⟩:=uO h17;obtain⟨n',rfl⟩:=h.pos;clear h hx az;cases hg:gd k .sum l with
        |none=>rw[show gd k .sum ((x::l).drop 1)=none from hg]at hr;cases hr
        |some r1=>
          rw[show gd k .sum ((x::l).drop 1)=some r1 from hg]at hr;have HI:=mk0 (fun w' hs=>ih .sum l r1 w' n' (by omega) hs hg);clear hg ih;cases r1 with
          |none=>
            cases hr;go_enter Tryz.func155,Tryz.ntmps155;go_wp2_with(first|(go_at_call 88;(with_reducible refine(qB _ U.out).mono ?_);rintro e wx⟨rfl,D⟩;have I:=mk0 (U.out.below D);have G:=mk0 (Z.out.trans (iB D));clear U Z D;have U:=I;have Z:=G;clear I G;obtain⟨i,i1,c2,f2,wa,wb,hA,X⟩:=U.out.on;have HA:=mk0 hA;have ab:=mk0 (Z.out.trans X);clear hA X)|(go_at_call 134;(refine(HI.out _ HA.out).mono ?_);rintro e wy⟨rfl,af,ag⟩;have ak:=mk0 (ab.out.trans af);obtain⟨l2,ai⟩:=ag;have am:=mk0 ai;clear af ai)|(go_at_call 133;(with_reducible refine(xI 18 am.out).mono ?_);rintro e wz⟨rfl,aa,Y⟩;have ah:=mk0 Y;have aj:=mk0 (ak.out.trans aa);clear Y aa));(first|go_end0|refine bodyPost_ret (results_none rfl _ _ _) rfl ?_);exact⟨rfl,aj.out,by cases hq:pass 18 l2 with|none=>exact⟨_,by have:=ah.out;rw[hq]at this;exact this.mono (Nat.le_succ _)⟩|some q=>exact⟨q,by have:=ah.out;rw[hq]at this;exact this.mono (Nat.le_succ _)⟩⟩
          |some l2=>
            (have aB:pass 18 l2=r:=by cases hr;rfl);clear hr;go_enter Tryz.func155,Tryz.ntmps155;go_wp2_with(first|(go_at_call 88;(with_reducible refine(qB _ U.out).mono ?_);rintro e wx⟨rfl,D⟩;have I:=mk0 (U.out.below D);have G:=mk0 (Z.out.trans (iB D));clear U Z D;have U:=I;have Z:=G;clear I G;obtain⟨i,i1,c2,f2,wa,wb,hA,X⟩:=U.out.on;have HA:=mk0 hA;have ab:=mk0 (Z.out.trans X);clear hA X)|(go_at_call 134;(refine(HI.out _ HA.out).mono ?_);rintro e wy⟨rfl,af,ag⟩;have ak:=mk0 (ab.out.trans af);have am:=mk0 ag;clear af ag)|(go_at_call 133;(with_reducible refine(xI 18 am.out).mono ?_);rintro e wz⟨rfl,aa,Y⟩;have ah:=mk0 Y;have aj:=mk0 (ak.out.trans aa);clear Y aa));(first|go_end0|refine bodyPost_ret (results_none rfl _ _ _) rfl ?_);refine⟨rfl,aj.out,?_⟩;have hz:=ah.out;rw[aB]at hz;cases r with
            |none=>exact⟨_,hz.mono (Nat.le_succ _)⟩
            |some q=>exact hz.mono (Nat.le_succ _)
theorem told{w1:World}{N:Nat}{B:Nat}:∀k,Told w1 N B k:=by
  intro k
  induction k with
  |zero=>intro I L r wc n G h D;cases D
  |succ k ih=>
    intro I L r wc n G h D;cases I with
    |guard=>exact yc ih L r wc n G h D
    |some=>exact yM ih L r wc n G h D
    |one=>exact zM ih L r wc n G h D
    |sum=>exact zG ih L r wc n G h D
    |product=>exact wX ih L r wc n G h D
    |factor=>exact xE ih L r wc n G h D
theorem Sr.full{w1 wc:World}{N:Nat}{B n:Nat}{bad:Bool}(h:Sr w1 N B n bad [] wc):∃(A:Option Addr) (c:Nat),wc.cell? ⟨B,0,none⟩=some (.slice A N c)∧wc.cell? ⟨B,2,none⟩=some (.int .i64 (N:Int)):=by
  obtain⟨A,c,v,xs,D,i,h1,h2,_,_,_,_,_⟩:=h;obtain⟨I,_,G⟩:=h2.out;have:D.length≤i:=by have:=congrArg List.length I;rw[List.length_drop,List.length_nil]at this;omega
  obtain rfl:i=D.length:=by omega
  rw[←G.2];exact⟨A,c,iF h1.out 0,iF h1.out 2⟩
theorem Sr.laid{w1 wc:World}{N:Nat}{B n:Nat}{bad:Bool}{L:List kD}(h:Sr w1 N B n bad L wc):∃v:Value,wc.cell? ⟨B,1,none⟩=some v∧(∃A m c,v= .slice A m c):=by
  obtain⟨A,c,v,xs,_,i,h1,_,_,D,_,_,_⟩:=h;obtain⟨A',c',e⟩:=Kd.qw D.out;exact⟨v,iF h1.out 1,A',_,c',e⟩
theorem Sr.old{w1 wc:World}{N:Nat}{B n:Nat}{bad:Bool}{L:List kD}(h:Sr w1 N B n bad L wc):Below w1.heap.size w1 wc:=by
  obtain⟨A,c,v,xs,_,i,h1,_,_,_,_,_,D⟩:=h;exact D.out
theorem Sr.short{w1 wc:World}{N:Nat}{B n:Nat}{bad:Bool}{x:kD}{l:List kD}(h:Sr w1 N B n bad (x::l) wc):∃i:Int,wc.cell? ⟨B,2,none⟩=some (.int .i64 i)∧i<(N:Int):=by
  obtain⟨A,c,v,xs,I,i,h1,h2,_,_,_,_,_⟩:=h;obtain⟨G,_,D⟩:=h2.out;have:i<I.length:=by have:=congrArg List.length G;rw[List.length_drop,List.length_cons]at this;omega
  exact⟨i,iF h1.out 2,by rw[←D.2];omega⟩
def LC(r:Option (List kD)):Int:=match r with|some []=>0|_=>2
def rM.f(k:Nat)(D:ByteArray):Option Int:=
  (eG.f k D).bind fun t=>if t.2=0 then(if t.1.length≤900 then(gd k .guard t.1).bind fun r=>some (LC r)else none)else some t.2
theorem rM.calls(k:Nat)(a0:ByteArray)(r:Int)(w:World)(h:rM.f k a0=some r):
    Calls Tryz.prog 50 #[.string a0] w fun e w'=>∃v0:Value,e= .returned (.tuple #[v0, .int .i64 r])∧Below w.heap.size w w':=by
  obtain⟨⟨xs,er⟩,hl,h2⟩:=Option.bind_eq_some_iff.mp h;clear h;dsimp only at h2;have aa:=mk0 (eG.calls k a0 xs er w hl);clear hl;by_cases he:er=0
  · subst he
    rw[if_pos rfl]at h2
    split at h2
    case isFalse=>cases h2
    rename_i ab
    obtain⟨g,hg,h3⟩:=Option.bind_eq_some_iff.mp h2;have hr:LC g=r:=Option.some.inj h3;have HG:=mk0 hg;have L:=mk0 ab;have ae:=mk0 hr;clear h2 h3 hg ab hr;cases g with
    |none=>
      go_enter Tryz.func50,Tryz.ntmps50;go_wp2_with(first|(go_at_call 64;(with_reducible refine aa.out.mono ?_);rintro e U⟨v0,rfl,I,Z⟩;obtain⟨A,c,rfl,Y,hC⟩:=Kd.vP I;have HB:=mk0 Z;have HI:=mk0 (told (N:=xs.length) (B:=U.heap.size) k .guard xs _ (U.alloc (.cells #[.slice A xs.length c, .slice none 0 0, .int .i64 0, .bool false] 93)) 900 (by omega) ⟨A,c, .slice none 0 0,[],xs,0,⟨qF U _⟩,⟨rfl,Nat.zero_le _,by have:=L.out;omega,rfl⟩,⟨hC⟩,⟨Kd.sO _ _ _ _ _⟩,⟨by simpa using L.out⟩,⟨Nat.le_refl _⟩,⟨(Below.refl _ _).alloc (Nat.le_refl _) _⟩⟩ HG.out);clear I Y hC Z)|(go_at_call 65;(refine HI.out.mono ?_);rintro e w5⟨rfl,X,D⟩;obtain⟨_,D⟩:=D;have G:=mk0 D;obtain⟨c3,f3⟩:=D.bad;clear D X));go_ret2;exact⟨_,by rw[←ae.out];rfl,kg HB.out G.out.old⟩
    |some l=>
      cases l with
      |nil=>
        go_enter Tryz.func50,Tryz.ntmps50;go_wp2_with(first|(go_at_call 64;(with_reducible refine aa.out.mono ?_);rintro e U⟨v0,rfl,I,Z⟩;obtain⟨A,c,rfl,Y,hC⟩:=Kd.vP I;have HB:=mk0 Z;have HI:=mk0 (told (N:=xs.length) (B:=U.heap.size) k .guard xs _ (U.alloc (.cells #[.slice A xs.length c, .slice none 0 0, .int .i64 0, .bool false] 93)) 900 (by omega) ⟨A,c, .slice none 0 0,[],xs,0,⟨qF U _⟩,⟨rfl,Nat.zero_le _,by have:=L.out;omega,rfl⟩,⟨hC⟩,⟨Kd.sO _ _ _ _ _⟩,⟨by simpa using L.out⟩,⟨Nat.le_refl _⟩,⟨(Below.refl _ _).alloc (Nat.le_refl _) _⟩⟩ HG.out);clear I Y hC Z)|(go_at_call 65;(refine HI.out.mono ?_);rintro e w5⟨rfl,X,D⟩;have G:=mk0 D;obtain⟨c3,f3⟩:=G.out.bad;obtain⟨_,_,_,e2⟩:=G.out.full;obtain⟨_,_,_,m6,_,rfl⟩:=G.out.laid;clear D X));go_ret2;exact⟨_,by rw[←ae.out];rfl,kg HB.out G.out.old⟩
      |cons x l=>
        go_enter Tryz.func50,Tryz.ntmps50;go_wp2_with(first|(go_at_call 64;(with_reducible refine aa.out.mono ?_);rintro e U⟨v0,rfl,I,Z⟩;obtain⟨A,c,rfl,Y,hC⟩:=Kd.vP I;have HB:=mk0 Z;have HI:=mk0 (told (N:=xs.length) (B:=U.heap.size) k .guard xs _ (U.alloc (.cells #[.slice A xs.length c, .slice none 0 0, .int .i64 0, .bool false] 93)) 900 (by omega) ⟨A,c, .slice none 0 0,[],xs,0,⟨qF U _⟩,⟨rfl,Nat.zero_le _,by have:=L.out;omega,rfl⟩,⟨hC⟩,⟨Kd.sO _ _ _ _ _⟩,⟨by simpa using L.out⟩,⟨Nat.le_refl _⟩,⟨(Below.refl _ _).alloc (Nat.le_refl _) _⟩⟩ HG.out);clear I Y hC Z)|(go_at_call 65;(refine HI.out.mono ?_);rintro e w5⟨rfl,X,D⟩;have G:=mk0 D;obtain⟨c3,f3⟩:=G.out.bad;obtain⟨j5,e2,jm⟩:=G.out.short;have af:(j5==(xs.length:Int))=false:=beq_eq_false_iff_ne.mpr (Int.ne_of_lt jm);clear D X));go_ret2;exact⟨_,by rw[←ae.out];rfl,kg HB.out G.out.old⟩
  · rw[if_neg he]at h2
    cases h2;have ag:(r==0)=false:=beq_eq_false_iff_ne.mpr he;go_enter Tryz.func50,Tryz.ntmps50;go_wp2_with(go_at_call 64;(with_reducible refine aa.out.mono ?_);rintro e U⟨v0,rfl,I,Z⟩;have HB:=mk0 Z;clear I Z);go_ret2;exact⟨_,rfl,HB.out⟩
end Go.Proofs.Rg
