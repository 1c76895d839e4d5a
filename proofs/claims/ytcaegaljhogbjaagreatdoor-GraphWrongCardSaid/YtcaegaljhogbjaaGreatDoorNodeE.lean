/- graph.Deep, walked by hand: it computes what the reference's Deep does. -/
import Derived.Test.YtcaegaljhogbjaaGreatDoorCycRef
import Derived.Test.YtcaegaljhogbjaaGreatDoorGraphSpec
set_option linter.unusedSectionVars false
set_option linter.unusedSimpArgs false
set_option linter.unusedVariables false
namespace Go.Proofs.Gr
open RowKit Lib Go.Sort PW PL PM Y Gd
theorem MQ{W:World}{b g:Nat}{o:Obj}(h:W.heap[b]?=some o)(D:b≠g)(G v1 v2 L I:Value):
    (((((W.setCell ⟨g,0,none⟩ G).setCell ⟨g,1,none⟩ v1).setCell ⟨g,2,none⟩ v2).setCell ⟨g,3,none⟩ L).setCell ⟨g,4,none⟩ I).heap[b]?=some o:=by
  rw[Below.heap_setCell _ _ _ _ D,Below.heap_setCell _ _ _ _ D,Below.heap_setCell _ _ _ _ D,Below.heap_setCell _ _ _ _ D,Below.heap_setCell _ _ _ _ D];exact h
theorem He(s:ByteArray)(l1:List S38)(l2:List S40)(n:Int):qo.f s l1 l2 n=qQ.f n 1 (l1.length:Int):=rfl
def AtN(s:ByteArray)(l1:List S38)(l2:List S40)(n:Int)(x:S38)(ok:Bool):Prop:=
  rW.f s l1 l2 n=some (x.f0,x.f1,x.f2,x.f3,x.f4,ok)∧qo.f s l1 l2 n=some ok∧(ok=true→0≤wrap64 (n-1)∧wrap64 (n-1)<(l1.length:Int)∧x=iH l1 (wrap64 (n-1)))
theorem FN{k:Nat}{n D r:Int}{s:ByteArray}{l1:List S38}{l2:List S40}(h:iI.l0 k n D s l1 l2=some r):∃x ok,AtN s l1 l2 n x ok:=by
  cases k with
  |zero=>exact absurd h (by simp[iI.l0])
  |succ k=>
    simp only[iI.l0]at h;obtain⟨t,ht,h⟩:=Option.bind_eq_some_iff.mp h;cases t with
    |false=>exact⟨⟨0,0,0,0,⟨#[]⟩⟩,false,by rw[rW.f,←He s l1 l2,ht];rfl,ht,fun e=>by cases e⟩
    |true=>
      rw[if_pos rfl]at h
      split at h
      case isFalse=>cases h
      rename_i p
      split at h
      case isFalse=>cases h
      rename_i q
      exact⟨_,true,by rw[rW.f,←He s l1 l2,ht];simp[p,q],ht,fun _=>⟨p,q,rfl⟩⟩
def vW.f(k:Nat)(G:ByteArray)(I:List S38)(D:List S40)(L:Int):Option Int:=iI.f k G I D L
set_option maxHeartbeats 8000000 in
set_option maxRecDepth 100000 in
theorem vW.calls(k:Nat)(I:ByteArray)(X:Option Addr)(Z:Nat)(D:List (S38))(ab:Option Addr)(aa:Nat)(G:List (S40))(a1:Int)(r:Int)(w:World)(ah:Kd.C k38 w X D.length D)(aj:D.length≤Z)(ai:Kd.C k40 w ab G.length G)(ag:G.length≤aa)(h:vW.f k I D G a1=some r):
    Calls Tryz.prog 17 #[.agg #[.string I, .slice X D.length Z, .slice ab G.length aa], .int .i64 a1] w fun e w'=>e= .returned (.int .i64 r)∧Below w.heap.size w w':=by
  have aw:=mk0 ah;have au:=mk0 ai;have av:=mk0 aj;have ar:=mk0 ag;have HH:=mk0 (show iI.l0 k a1 0 I D G=some r from h);clear ah aj ai ag h;obtain⟨x,ok,aq⟩:=FN HH.out;have ae:=mk0 aq;clear aq;obtain⟨f0,f1,f2,f3,f4⟩:=x;go_enter Tryz.func17,Tryz.ntmps17;have HB:=mk0 (eX (Below.refl w.heap.size w) (.cells #[.string I, .slice X D.length Z, .slice ab G.length aa] 25));have L:=mk0 (qF w (.cells #[.string I, .slice X D.length Z, .slice ab G.length aa] 25));go_wp2_with fail;refine(rW.calls I _ _ D _ _ G a1 f0 f1 f2 f3 f4 ok _ (Kd.iT aw.out HB.out) av.out (Kd.iT au.out HB.out) ar.out ae.out.1).mono ?_;rintro e w3⟨rfl,am⟩;have n0:=mk0 (iW L.out am);have n1:=mk0 (kg HB.out am);have n2:=mk0 (show w.heap.size<w3.heap.size from Nat.lt_of_lt_of_le (rX L.out) am.size);clear HB L;have L:=n0;have HB:=n1;have af:=n2;clear n0 n1 n2 am;go_wp2_with fail;have U:=mk0 (qF w3 (.cells #[.int .i64 f0, .int .i64 f1, .int .i64 f2, .int .i64 f3, .string f4] 38))
  go_loopg [5,6,7] k (fun kq v5 v6 v7 wr=>∃(n x5:Int) (x:S38) (ok:Bool) (g:Nat),v5= .int .i64 x5∧v6= .pointer (some ⟨g,0,none⟩)∧v7= .bool ok∧eD (iI.l0 kq n x5 I D G=some r)∧eD (AtN I D G n x ok)∧eD (kq≤k)∧eD (w.heap.size<g)∧
    eD (wr.heap[g]?=some (.cells #[.int .i64 x.f0, .int .i64 x.f1, .int .i64 x.f2, .int .i64 x.f3, .string x.f4] 38 (0,0)))∧eD (wr.heap[w.heap.size]?=some (.cells #[.string I, .slice X D.length Z, .slice ab G.length aa] 25 (0,0)))∧eD (Below w.heap.size w wr))
  case atStart=>exact⟨a1,0,⟨f0,f1,f2,f3,f4⟩,ok,_,rfl,rfl,rfl,HH,ae,⟨Nat.le_refl _⟩,af,U,⟨sG L.out _⟩,⟨eX HB.out _⟩⟩
  case round=>
    clear HH ae HB L U af;obtain⟨n,x5,x,ok,g,rfl,rfl,rfl,HH,ae,HK1,_,U,L,HB⟩:=hrel;obtain⟨f0,f1,f2,f3,f4⟩:=x;obtain⟨e0,e1,e2,e3,e4⟩:=kT U.out;obtain⟨b0,b1,b2⟩:=qO L.out;cases gk with
    |zero=>exact absurd HH.out (by simp[iI.l0])
    |succ k1=>
      have H:=HH.out;clear HH;simp only[iI.l0,ae.out.2.1,Option.bind_some]at H;cases ok with
      |false=>
        rw[if_neg (by decide)]at H;obtain rfl:=Option.some.inj H;clear H;go_wp2;go_ret;exact⟨rfl,by repeat(first|exact HB.out|apply eP|apply eZ)⟩
      |true=>
        obtain⟨p,q,hx⟩:=ae.out.2.2 rfl;rw[if_pos rfl,if_pos p,if_pos q,←hx]at H;clear p q hx;by_cases c1:f1=0
        · rw[if_pos c1]at H
          obtain rfl:=Option.some.inj H;clear H;subst c1;go_wp2;go_ret;exact⟨rfl,by repeat(first|exact HB.out|apply eP|apply eZ)⟩
        · rw[if_neg c1]at H
          have ay:(f1 !=0)=true:=bne_iff_ne.mpr c1;have az:(f1==0)=false:=beq_eq_false_iff_ne.mpr c1;by_cases c2:x5<60
          · rw[if_pos c2]at H
            have ax:decide (x5<60)=true:=decide_eq_true c2;have HH:=mk0 H;clear H;obtain⟨y,ok2,an⟩:=FN HH.out;have ao:=mk0 an;clear an;obtain⟨y0,y1,y2,y3,y4⟩:=y;have al:=mk0 (eX HB.out (.cells #[.int .i64 f0, .int .i64 f1, .int .i64 f2, .int .i64 f3, .string f4] 38));have Y:=mk0 (sG L.out (.cells #[.int .i64 f0, .int .i64 f1, .int .i64 f2, .int .i64 f3, .string f4] 38));have ap:=mk0 (qF wr (.cells #[.int .i64 f0, .int .i64 f1, .int .i64 f2, .int .i64 f3, .string f4] 38));have af:=mk0 (show w.heap.size<wr.heap.size from rX L.out);have d0:=(iF Y.out 0).trans rfl;have d1:=(iF Y.out 1).trans rfl;have d2:=(iF Y.out 2).trans rfl;have g1:=(iF ap.out 1).trans rfl;go_wp2_with fail;refine(rW.calls I _ _ D _ _ G f1 y0 y1 y2 y3 y4 ok2 _ (Kd.iT aw.out al.out) av.out (Kd.iT au.out al.out) ar.out ao.out.1).mono ?_;rintro e w5⟨rfl,ak⟩;have n0:=mk0 (iW Y.out ak);have n1:=mk0 (kg al.out ak);have n2:=mk0 (iW ap.out ak);clear HB L al Y ap U ak e0 e1 e2 e3 e4 b0 b1 b2 d0 d1 d2 g1;have L:=n0;have HB:=n1;have U:=n2;clear n0 n1 n2;generalize wr.heap.size=g2 at*;obtain⟨e0,e1,e2,e3,e4⟩:=kT U.out;have z0:=iP U.out 0;have z1:=iP U.out 1;have z2:=iP U.out 2;have z3:=iP U.out 3;have z4:=iP U.out 4;go_wp2;go_roundg k1;(case measure=>have:=HK1.out;omega);case rel=>exact⟨f1,wrap64 (x5+1),⟨y0,y1,y2,y3,y4⟩,ok2,g2,rfl,rfl,rfl,HH,ao,⟨by have:=HK1.out;omega⟩,af,⟨JU U.out _ _ _ _ _⟩,⟨MQ L.out (Nat.ne_of_lt af.out) _ _ _ _ _⟩,⟨JJ HB.out (Nat.le_of_lt af.out) _ _ _ _ _⟩⟩
          · rw[if_neg c2]at H
            have ax:decide (x5<60)=false:=decide_eq_false c2;obtain rfl:=Option.some.inj H;clear H;go_wp2;go_ret;exact⟨rfl,by repeat(first|exact HB.out|apply eP|apply eZ)⟩
open Ext B Q Span Cyc
def inL(l:List S38)(n:Int):Prop:=1≤n∧n≤(l.length:Int)
instance(l:List S38)(n:Int):Decidable (inL l n):=inferInstanceAs (Decidable (_∧_))
def nd(l:List S38)(n:Int):S38:=iH l (wrap64 (n-1))
def atS(l:List S38)(n:Int):S38:=if inL l n then nd l n else⟨0,0,0,0,⟨#[]⟩⟩
def iC(l:List S38)(n:Int):Int:=if inL l n then(nd l n).f0 else 0
def xg(x:S38):Bool:=
  if(kH x.f4.data.toList).2=0∧(kH x.f4.data.toList).1≠0 then true
  else if x.f0=9 then decide ((wZ x.f4.data.toList).2.2=0∧(wZ x.f4.data.toList).1≤9)else false
def opn(k:Int):Bool:=decide (k=7∨k=9)
def tmE(x:S38):Int:=if xg x=true then 0 else 6
def r9(l:List S38)(n:Int)(x:S38):Int:=
  if x.f0<1∨9<x.f0 then 16
  else if x.f1≠0∧(n≤x.f1∨opn (iC l x.f1)=false)then 16
  else if(x.f0≠3∧x.f2≠0)∨x.f2<0∨8≤x.f2 then 16
  else if x.f0=8∨x.f0=9 then(if x.f3<n∧(iC l x.f3=3∨iC l x.f3=7)∧(nd l x.f3).f1=x.f1 then tmE x else 16)
  else if x.f3≠0 then 16
  else if x.f0=4 then tmE x else if x.f4.toList=[]then 0 else 6
section
variable {l1:List S38} {l2:List S40} {s:ByteArray} (hl:l1.length≤1000000)
include hl
theorem zw{n:Int}(h:inL l1 n):wrap64 (n-1)=n-1∧0≤wrap64 (n-1)∧wrap64 (n-1)<(l1.length:Int):=by
  obtain⟨h1,_⟩:=h;have e:wrap64 (n-1)=n-1:=by unfold wrap64;omega
  rw[e];exact⟨rfl,by omega,by omega⟩
theorem Io(n:Int):qo.f s l1 l2 n=some (decide (inL l1 n)):=by
  unfold qo.f inL;by_cases h:n≥1
  · rw[if_pos h]
    have:1≤n:=h;simp[this]
  · rw[if_neg h]
    have:¬1≤n:=h;simp[this]
theorem rV(n:Int):iL.f s l1 l2 n=some (iC l1 n):=by
  unfold iL.f iC;rw[Io hl];simp only[Option.bind_some];by_cases h:inL l1 n
  · obtain⟨_,h1,h2⟩:=zw hl h
    simp[h,h1,h2,nd]
  · simp[h]
theorem at_eq(n:Int):rW.f s l1 l2 n=some ((atS l1 n).f0,(atS l1 n).f1,(atS l1 n).f2,(atS l1 n).f3,(atS l1 n).f4,decide (inL l1 n)):=by
  unfold rW.f atS;rw[←He s l1 l2,Io hl];simp only[Option.bind_some];by_cases h:inL l1 n
  · obtain⟨_,h1,h2⟩:=zw hl h
    simp[h,h1,h2,nd]
  · simp[h]
omit hl in
theorem uF(n:Int):(atS l1 n).f0=iC l1 n:=by unfold atS iC;split<;>rfl
omit hl in
theorem BQ{n:Int}(h:inL l1 n):atS l1 n=nd l1 n:=if_pos h
omit hl in
theorem vQ{n:Int}(h:iC l1 n≠0):inL l1 n:=by
  unfold iC at h
  split at h
  · assumption
  · exact absurd rfl h
theorem vT(n:Int):kV.f s l1 l2 n=some (opn (iC l1 n)):=by
  unfold kV.f opn;rw[rV hl];simp only[Option.bind_some];by_cases h:iC l1 n=7
  · simp[h]
  · rw[if_neg h]
    by_cases D:iC l1 n=9<;>simp[h,D]
end
theorem D5(k:Int):tN.f k=some (opn k):=by
  unfold tN.f opn;by_cases h:k=7
  · simp[h]
  · rw[if_neg h]
    by_cases D:k=9<;>simp[h,D]
theorem GV{l:List UInt8}(h:(kH l).2=0):wZ l=(0,0,2):=by
  unfold kH at h
  split at h
  · exact E5 _ (by simp)
  · cases h
theorem J7{a:ByteArray}(D:a.size≤1000):rC.f a=some (((kH a.data.toList).1:Int),((kH a.data.toList).2:Int)):=by
  unfold rC.f;rw[if_pos (by omega)]
theorem Ij{a:ByteArray}(D:a.size≤1000)(k:Nat)(hk:5000≤k):eH.f k a=some (((kH a.data.toList).1:Int),((kH a.data.toList).2:Int)):=by
  have e:=GA a;have hs:a.data.toList.length=a.size:=Array.length_toList;have:=BK a.data.toList (by omega) k (by omega);rw[e]at this;exact this
theorem Ls{a:ByteArray}(D:a.size≤1000)(k:Nat)(hk:5000≤k):ko.f k a=some (((wZ a.data.toList).1:Int),((wZ a.data.toList).2.1:Int),((wZ a.data.toList).2.2:Int)):=by
  have e:=GA a;have hs:a.data.toList.length=a.size:=Array.length_toList;have:=Gv a.data.toList (by omega) k (by omega);rw[e]at this;exact this
theorem JH{a:ByteArray}(D:a.size≤1000)(k:Nat)(hk:5000≤k):eT.f k a=some (((wZ a.data.toList).1:Int),((wZ a.data.toList).2.1:Int),((wZ a.data.toList).2.2:Int)):=by
  have e:=GA a;have hs:a.data.toList.length=a.size:=Array.length_toList;have:=J4 a.data.toList (by omega) k (by omega);rw[e]at this;exact this
theorem Hg(x:S38)(hx:x.f0=4∨x.f0=8∨x.f0=9)(Y:x.f4.size≤1000)(k:Nat)(hk:5001≤k):∃c1 c2,ru.f k x.f0 x.f1 x.f2 x.f3 x.f4=some (c1,c2,xg x):=by
  obtain⟨k,rfl⟩:∃m,k=m+1:=⟨k-1,by omega⟩
  have e:ru.f (k+1) x.f0 x.f1 x.f2 x.f3 x.f4=ru.j0 (k+1) x.f0 x.f1 x.f2 x.f3 x.f4:=by
    unfold ru.f;rcases hx with h|h|h<;>simp[h]
  rw[e,ru.j0,J7 Y];simp only[Option.bind_some];unfold xg;have hc:=@GV x.f4.data.toList;by_cases h:(kH x.f4.data.toList).2=0
  · have L:(((kH x.f4.data.toList).2:Nat):Int)=0:=by omega
    rw[if_pos L];by_cases Z:(kH x.f4.data.toList).1=0
    · exact⟨1,(((kH x.f4.data.toList).1:Nat):Int),by simp[h,Z,hc h]⟩
    · refine⟨1,(((kH x.f4.data.toList).1:Nat):Int),?_⟩
      have I:decide ((((kH x.f4.data.toList).1:Nat):Int)>0)=true:=decide_eq_true (by omega);rw[I,if_pos ⟨h,Z⟩]
  · have L:¬(((kH x.f4.data.toList).2:Nat):Int)=0:=by omega
    rw[if_neg L,Ls Y _ (by omega),if_neg (fun e=>h e.1)];simp only[Option.bind_some];by_cases D:x.f0=9
    · rw[if_pos D,if_pos D]
      by_cases G:(wZ x.f4.data.toList).2.2=0
      · have U:(((wZ x.f4.data.toList).2.2:Nat):Int)=0:=by omega
        rw[if_pos U];by_cases X:(wZ x.f4.data.toList).1≤9
        · rw[if_neg (by omega)]
          exact⟨_,_,by simp[G,X];exact⟨rfl,rfl⟩⟩
        · rw[if_pos (by omega)]
          exact⟨_,_,by simp[G,X];exact⟨rfl,rfl⟩⟩
      · rw[if_neg (by omega)]
        exact⟨_,_,by simp[G];exact⟨rfl,rfl⟩⟩
    · rw[if_neg D,if_neg D]
      exact⟨_,_,rfl⟩
theorem yV{l1:List S38}{l2:List S40}{s:ByteArray}(hl:l1.length≤1000000){n:Int}(L:inL l1 n)(Z:(nd l1 n).f0=4∨(nd l1 n).f0=8∨(nd l1 n).f0=9)(X:(nd l1 n).f4.size≤1000)(k:Nat)(hk:5003≤k):
    ∃c1 c2,iJ.f k s l1 l2 n=some (c1,c2,xg (nd l1 n)):=by
  obtain⟨k,rfl⟩:∃m,k=m+2:=⟨k-2,by omega⟩
  obtain⟨_,p,q⟩:=zw hl L;have G:iC l1 n=(nd l1 n).f0:=if_pos L;have e:iJ.f (k+2) s l1 l2 n=iJ.j0 (k+2) n (nd l1 n).f0 false s l1 l2:=by
    unfold iJ.f;rw[rV hl,G];simp only[Option.bind_some];rcases Z with h|h|h<;>simp[h]
  rw[e,iJ.j0,if_neg (by decide),if_pos p,if_pos q];show ∃c1 c2,((qU.f (k+1) (nd l1 n).f4).bind _)=_;unfold qU.f;rw[Ij X _ (by omega)];simp only[Option.bind_some];unfold xg;by_cases h:(kH (nd l1 n).f4.data.toList).2=0∧(kH (nd l1 n).f4.data.toList).1≠0
  · rw[if_pos (by omega),if_neg (by omega),if_pos h]
    simp only[Option.bind_some,if_true,iJ.j1];exact⟨_,_,rfl⟩
  · have Y:(if(((kH (nd l1 n).f4.data.toList).2:Nat):Int)=0 then(if(((kH (nd l1 n).f4.data.toList).1:Nat):Int)=0 then some ((0:Int),(0:Int),false)else some (1,(((kH (nd l1 n).f4.data.toList).1:Nat):Int),true))else some (0,0,false))=some (0,0,false):=by
      split
      · rw[if_pos (by omega)]
      · rfl
    rw[Y,if_neg h]
    simp only[Option.bind_some,Bool.false_eq_true,if_false,iJ.j1]
    by_cases D:(nd l1 n).f0=9
    · rw[if_pos D]
      (have:((nd l1 n).f0 !=9)=false:=by simp[D]);simp only[show iH l1 (wrap64 (n-1))=nd l1 n from rfl];rw[this,JH X _ (by omega)];simp only[Bool.false_eq_true,if_false,Option.bind_some];by_cases I:(wZ (nd l1 n).f4.data.toList).2.2=0
      · rw[if_pos (by omega)]
        by_cases U:(wZ (nd l1 n).f4.data.toList).1≤9
        · rw[if_neg (by omega)]
          exact⟨_,_,by simp[I,U];exact⟨rfl,rfl⟩⟩
        · rw[if_pos (by omega)]
          exact⟨_,_,by simp[I,U];exact⟨rfl,rfl⟩⟩
      · rw[if_neg (by omega)]
        exact⟨_,_,by simp[I];exact⟨rfl,rfl⟩⟩
    · rw[if_neg D]
      (have:((nd l1 n).f0 !=9)=true:=by simp[D]);rw[this];exact⟨_,_,rfl⟩
theorem Am(k:Int):rz.f k=some (decide (k=8∨k=9)):=by
  unfold rz.f;by_cases h:k=8
  · simp[h]
  · rw[if_neg h]
    by_cases D:k=9<;>simp[h,D]
theorem Gz(k:Int):uS.f k=some (decide (k=3∨k=7)):=by
  unfold uS.f;by_cases h:k=3
  · simp[h]
  · rw[if_neg h]
    by_cases D:k=7<;>simp[h,D]
theorem LA(n a b:Int):qQ.f n a b=some (decide (a≤n∧n≤b)):=by
  unfold qQ.f;by_cases h:n≥a
  · rw[if_pos h]
    have:a≤n:=h;simp[this]
  · rw[if_neg h]
    have:¬a≤n:=h;simp[this]
def nE(D G I U n:Int)(Y act:Bool)(X:Int)(L Z:Bool):Int:=
  if D<1∨9<D then 16
  else if G≠0∧(n≤G∨Y=false)then 16
  else if(D≠3∧I≠0)∨I<0∨8≤I then 16
  else if D=8∨D=9 then(if U<n∧act=true∧X=G then(if L=true then 0 else 6)else 16)
  else if U≠0 then 16
  else if D=4 then(if L=true then 0 else 6)else if Z=true then 0 else 6
theorem y8(l:List S38)(n:Int)(x:S38):r9 l n x=nE x.f0 x.f1 x.f2 x.f3 n (opn (atS l x.f1).f0) (decide ((atS l x.f3).f0=3∨(atS l x.f3).f0=7)) (atS l x.f3).f1 (xg x) (x.f4.toList==[]):=by
  unfold r9 nE tmE;rw[uF,uF];simp only[decide_eq_true_eq,beq_iff_eq];by_cases h:iC l x.f3=3∨iC l x.f3=7
  · have hi:inL l x.f3:=vQ (by omega)
    rw[BQ hi]
  · simp only[h,false_and,and_false]
end Go.Proofs.Gr
