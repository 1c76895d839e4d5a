/- What reading a guard comes to, in plain words: the signs'. -/
import Derived.Lib.SmallJoins
import Derived.Lib.OthersKept
import Derived.Shelf.Abstract
import Derived.LoopTactic
import Derived.WalkLawsBesides
import Derived.Test.YtcaegaljhogbjaaGreatDoorGoto
import Derived.Test.YtcaegaljhogbjaaGreatDoorGx2
set_option linter.unusedSimpArgs false
set_option linter.unusedVariables false
set_option maxHeartbeats 8000000
namespace Go.Proofs.Gd
open G
inductive NT where
  |guard|some|one|sum|product|factor
abbrev R:=Option (Option (List kD))
def rows(G:List kD→R)(D:List Int):Nat→List kD→R
  |0,_=>none
  |_+1,[]=>some (some [])
  |k+1,c::l=>if D.contains c.f0=true then(match G l with|none=>none|some none=>some none|some (some r)=>rows G D k r)else some (some (c::l))
def row(D:List kD→R)(G:List Int)(k:Nat)(l:List kD):R:=
  match D l with|none=>none|some none=>some none|some (some r)=>rows D G k r
def pass(kd:Int):List kD→Option (List kD)
  |[]=>none
  |c::l=>if c.f0=kd then some l else none
def sees(kd:Int):List kD→Bool
  |[]=>false
  |c::_=>c.f0==kd
def compares(kd:Int):Bool:=decide (6≤kd)&&decide (kd≤11)
def gd:Nat→NT→List kD→R
  |0,_,_=>none
  |k+1, .guard,l=>row (gd k .some) [13] k l
  |k+1, .some,l=>row (gd k .one) [12] k l
  |k+1, .sum,l=>row (gd k .product) [3,4] k l
  |k+1, .product,l=>row (gd k .factor) [5] k l
  |k+1, .one,l=>
    if sees 14 l=true then gd k .one (l.drop 1)
    else if sees 15 l=true then(match gd k .guard (l.drop 1)with|none=>none|some none=>some none|some (some r)=>some (pass 16 r))
    else(match gd k .sum l with
      |none=>none
      |some none=>some none
      |some (some [])=>some none
      |some (some (c::r))=>if compares c.f0=true then gd k .sum r else some none)
  |k+1, .factor,l=>
    if(sees 1 l||sees 2 l)=true then some (some (l.drop 1))
    else if sees 4 l=true then gd k .factor (l.drop 1)
    else if sees 17 l=true then(match gd k .sum (l.drop 1)with|none=>none|some none=>some none|some (some r)=>some (pass 18 r))
    else some none
open RowKit Lib Go.Sort PW PL PM
def St(w1:World)(B n:Nat)(L:List kD)(wc:World):Prop:=
  ∃(A:Option Addr) (c:Nat) (v:Value) (xs:List kD),eD (wc.heap[B]?=some (.cells #[.slice A L.length c,v] 87 (0,0)))∧eD (L.length≤c∧True)∧eD (tq.C w1 A L.length L)∧eD (tq.R 118 wc w1.heap.size (fun _=>True) v xs)∧eD (xs.length+L.length≤n)∧eD (w1.heap.size≤B)∧eD (Below w1.heap.size w1 wc)
def Wrong(w:World):Prop:=∃(T:TypeId) (p:Value),w.cell? ⟨0,0,none⟩=some (.iface T p)
theorem Wrong.below{w w':World}(h:Wrong w)(G:Below w.heap.size w w'):Wrong w':=by
  obtain⟨T,p,h⟩:=h;refine⟨T,p,?_⟩;have D:0<w.heap.size:=by
    unfold World.cell? at h;cases hh:w.heap[0]? with
    |none=>rw[hh]at h;cases h
    |some o=>exact rX hh
  exact(G.cell (p:=⟨0,0,none⟩) D).trans h
theorem St.below{w1 wc w':World}{B n:Nat}{L:List kD}(h:St w1 B n L wc)(D:Below wc.heap.size wc w'):St w1 B n L w':=by
  obtain⟨A,c,v,xs,h1,h2,G,U,I,Y,X⟩:=h;exact⟨A,c,v,xs,⟨iW h1.out D⟩,h2,G,⟨Kd.qJ U.out D⟩,I,Y,⟨kg X.out D⟩⟩
theorem vv(kd:Int){w1 wc:World}{B n:Nat}{L:List kD}(h:St w1 B n L wc):
    Calls Tryz.prog 130 #[.pointer (some ⟨B,0,none⟩), .int .i64 kd] wc fun e w'=>e= .returned (.bool (sees kd L))∧Below wc.heap.size wc w':=by
  obtain⟨A,c,v,xs,h1,_,U,_,_,_,Z⟩:=h;have X:wc.cell? ⟨B,0,none⟩=some (.slice A L.length c):=iF h1.out 0;cases L with
  |nil=>
    go_enter Tryz.func130,Tryz.ntmps130;go_wp2;go_ret;exact⟨rfl,Below.refl _ _⟩
  |cons x l=>
    obtain⟨ad,rfl,I,Y⟩:=wH (Kd.iT U.out Z.out) 0 (by omega) (by rw[List.length_cons];omega);have hx:wI (x::l) 0=x:=rfl;rw[hx]at I;have e2:wc.cell? ad=some (.int .i64 x.f0):=I;clear I Y;(obtain⟨n,G⟩:∃n,(x::l).length=n:=⟨_,rfl⟩);(have D:1≤n:=by rw[←G,List.length_cons];omega);rw[G]at X;have hl:decide ((0:Int)<(n:Int))=true:=decide_eq_true (by omega);(have hi:(0:Int)<(n:Int):=by omega);have aa:0<n:=D;show Calls _ _ _ _ fun e w'=>e= .returned (.bool (x.f0==kd))∧Below wc.heap.size wc w';clear G;go_enter Tryz.func130,Tryz.ntmps130;go_wp2;go_ret;exact⟨rfl,Below.refl _ _⟩
theorem iB{e:TypeId}{b:Option Nat}{w w':World}(D:Below w.heap.size w w'):Lib.OthersKept e b w w':=fun k o h _ _=>iW h D
def Ends(w1 wc:World)(B n:Nat)(r:Option (List kD))(e:Ending)(w':World):Prop:=
  match r with
  |some l=>e= .returned (.tuple #[])∧St w1 B n l w'∧Lib.OthersKept 118 (some B) wc w'
  |none=>(∃(T:TypeId) (p:Value),e= .panicked [{v:= .iface T p,recovered:=false}])∧Below w1.heap.size w1 w'
theorem Ct{kd:Int}{L:List kD}(h:sees kd L=false):pass kd L=none:=by
  cases L with
  |nil=>rfl
  |cons x l=>exact if_neg (fun e=>by rw[sees,e]at h;simp at h)
theorem uO{kd:Int}{L:List kD}(h:sees kd L=true):∃x l,L=x::l∧x.f0=kd∧pass kd L=some l:=by
  cases L with
  |nil=>cases h
  |cons x l=>exact⟨x,l,rfl,beq_iff_eq.mp h,if_pos (beq_iff_eq.mp h)⟩
theorem St.wrong{w1 wc:World}{B n:Nat}{L:List kD}(h:St w1 B n L wc)(G:Wrong w1):∃(T:TypeId) (p:Value),wc.cell? ⟨0,0,none⟩=some (.iface T p):=by
  obtain⟨A,c,v,xs,h1,_,_,_,_,_,D⟩:=h;exact G.below D.out
theorem St.old{w1 wc:World}{B n:Nat}{L:List kD}(h:St w1 B n L wc):Below w1.heap.size w1 wc:=by
  obtain⟨A,c,v,xs,h1,_,_,_,_,_,D⟩:=h;exact D.out
theorem za:∀q,q∈118::tq.E→q≠87:=by
  intro q D;have e:q=118:=by simpa[show tq.E=[]from rfl]using D
  subst e;decide
theorem St.drop{w1 G:World}{B n c:Nat}{A:Option Addr}{v:Value}{x:kD}{l:List kD}(h:St w1 B (n+1) (x::l) G)(D:G.heap[B]?=some (.cells #[.slice A (x::l).length c,v] 87 (0,0))):
    St w1 B n l (G.setCell ⟨B,0,none⟩ (.slice (if c=1 then A else A.map (·.add (1*2))) l.length (c-1))):=by
  obtain⟨_,_,_,xs,h1,h2,Y,h4,Z,U,h7⟩:=h;have L:=D.symm.trans h1.out;simp only[Option.some.injEq,Obj.cells.injEq,Array.mk.injEq,List.cons.injEq,Value.slice.injEq,true_and,and_true,and_self]at L;obtain⟨⟨rfl,rfl⟩,rfl⟩:=L;have hl:(x::l).length=l.length+1:=rfl;have I:=h2.out;have aa:=Z.out;have X:=Kd.K9 (c:=c) (m:=1) Y.out (by omega) I.1;refine⟨_,c-1,v,xs,⟨eY D 0 _ rfl⟩,⟨by omega,trivial⟩,⟨X⟩,⟨Kd.wL h4.out D za 0 _⟩,⟨by omega⟩,U,⟨kr h7.out U.out⟩⟩
theorem tT(kd:Int){w1 wc:World}{B n:Nat}{L:List kD}(hw:Wrong w1)(h:St w1 B (n+1) L wc):
    Calls Tryz.prog 107 #[.pointer (some ⟨B,0,none⟩), .int .i64 kd] wc (Ends w1 wc B n (pass kd L)):=by
  have hs:=vv kd h;cases G:sees kd L with
  |false=>
    rw[Ct G];rw[G]at hs;have U:=mk0 hs;have X:=mk0 h;clear hs h G;go_enter Tryz.func107,Tryz.ntmps107;go_wp2_with(go_at_call 130;(with_reducible refine U.out.mono ?_);rintro e Y⟨rfl,G⟩;have D:=mk0 (X.out.below G);obtain⟨T,p,_⟩:=D.out.wrong hw);exact⟨rfl,⟨T,p,rfl⟩,D.out.old⟩
  |true=>
    obtain⟨x,l,rfl,Z,I⟩:=uO G;rw[I];rw[G]at hs;have U:=mk0 hs;have X:=mk0 h;clear hs h G Z I;go_enter Tryz.func107,Tryz.ntmps107;go_wp2_with(go_at_call 130;(with_reducible refine U.out.mono ?_);rintro e Y⟨rfl,G⟩;have D:=mk0 (X.out.below G);obtain⟨A,c,v,xs,h1,_,_,_,_,_,_⟩:=D.out;have c0:Y.cell? ⟨B,0,none⟩=some (.slice A (x::l).length c):=iF h1.out 0;have f0:Y.frozen? ⟨B,0,none⟩=false:=iP h1.out 0);(all_goals go_end0);case inl=>subst h;exact⟨rfl,St.drop D.out h1.out,Lib.OthersKept.setCell (iB G) ⟨B,0,none⟩ rfl _⟩
    case inr=>
      have e:=St.drop D.out h1.out;rw[if_neg h]at e;exact⟨rfl,e,Lib.OthersKept.setCell (iB G) ⟨B,0,none⟩ rfl _⟩
theorem kS(kd:Int){w1 wc:World}{B n:Nat}{L:List kD}(hn:n≤1000)(h:St w1 B n L wc):
    Calls Tryz.prog 108 #[.pointer (some ⟨B,0,none⟩), .int .i64 kd] wc fun e w'=>e= .returned (.tuple #[])∧St w1 B (n+1) L w'∧Lib.OthersKept 118 (some B) wc w':=by
  obtain⟨A,c,v,xs,h1,h2,h3,h4,h5,h6,h7⟩:=h;have c1:wc.cell? ⟨B,1,none⟩=some v:=iF h1.out 1;have ae:xs.length≤1000:=by have:=h5.out;omega
  have U:=mk0 (Kd.sH h4.out h1.out (by decide));go_enter Tryz.func108,Tryz.ntmps108;go_wp2_with(first|((with_reducible refine kW (b:= .append) (xs:=#[.tmp 8, .tmp 11]) rfl ?_);(try(refine qg (by rfl) ?_;dsimp only));at_builtin;refine Kd.rF tq (w0:=w1) w1.heap.size rfl (.tmp 8) (.tmp 11) 71 118 (.agg #[(.int .i64 0),(.int .i64 0)]) 16 rfl Tryz.underlying71 uG rfl (by decide) (by omega) v xs (⟨kd,0⟩:kD) [.int .i64 kd, .int .i64 0] (fun _=>True) (fun _=>False) rfl rfl ?aP (fun _ hk=>hk.elim) ?aF ?aO ?aB ?aS ?aL ?_;(case aP=>exact tF _ _ _ (⟨kd,0⟩:kD));(case aB=>exact h7.out);(case aF=>exact(fun _ _=>trivial));(case aO=>exact h4.out);(case aS=>exact kN h7.out);(case aL=>omega);intro v1 w3 Y hb hg Z;obtain⟨_,_,rfl⟩:=Kd.qw Y;have ab:=mk0 hb;have aa:=mk0 (Lib.OthersKept.grown (Lib.OthersKept.refl 118 (some B) wc) hg (fun g I=>by obtain⟨cells,hc⟩:=Kd.uE h4.out g I;exact⟨cells,_,hc⟩));have X:=mk0 Y;have D:=mk0 (qD h1.out hg U.out);have af:w3.cell? ⟨B,1,none⟩=some v:=iF D.out 1;have ah:w3.frozen? ⟨B,1,none⟩=false:=iP D.out 1;clear hb Y hg Z));go_end0;have ag:=h5.out;have G:=X.out;rw[List.length_append,List.length_singleton]at G;exact⟨rfl,⟨A,c,_,xs++[⟨kd,0⟩],⟨eY D.out 1 _ rfl⟩,h2,h3,⟨Kd.wL G D.out za 1 _⟩,⟨by rw[List.length_append,List.length_singleton];omega⟩,h6,⟨kr ab.out h6.out⟩⟩,Lib.OthersKept.setCell aa.out ⟨B,1,none⟩ rfl _⟩
def Kinds(K:Nat)(D:List Int)(w:World):Prop:=w.heap[K]?=some (.cells (D.map (fun z=>Value.int .i64 z)).toArray 3 (0,0))
theorem Kinds.kept{K B:Nat}{D:List Int}{w w':World}(h:Kinds K D w)(G:K≠B)(I:Lib.OthersKept 118 (some B) w w'):Kinds K D w':=
  I K _ h (by simpa using G) (by intro c L e;injection e with _ e2 _;exact absurd e2 (by decide))
theorem Kinds.below{K:Nat}{D:List Int}{w w':World}(h:Kinds K D w)(G:Below w.heap.size w w'):Kinds K D w':=iW h G
theorem Dn{K:Nat}{D:List Int}{w:World}(h:Kinds K D w):∀j,j<D.length→w.cell? ⟨K,0+j,none⟩=some (.int .i64 (D.getD j 0)):=by
  intro j G;rw[Nat.zero_add];refine(iF h j).trans ?_;rw[List.getD_eq_getElem?_getD,List.getElem?_eq_getElem G];simp[G]
theorem Ja{K B n:Nat}{D:List Int}{L:List kD}{w1 w:World}(h:Kinds K D w)(hs:St w1 B n L w):K≠B:=by
  obtain⟨A,c,v,xs,h1,_,_,_,_,_,_⟩:=hs;exact wD h h1.out (by decide)
theorem yw (th:List kD→R) (g:FuncId) (eg:∀args w,(callFunc g args).run Tryz.prog w= .ok (.enter g args) w) (U:List Int) {w1:World} {B:Nat} (hw:Wrong w1)
    (am:∀(L:List kD) (r:Option (List kD)) (wc:World) (n:Nat),n≤999→St w1 B n L wc→th L=some r→Calls Tryz.prog g #[.pointer (some ⟨B,0,none⟩)] wc (Ends w1 wc B n r))
    (k:Nat) (L:List kD) (r:Option (List kD)) (wc:World) (n K:Nat) (hn:n≤999) (aB:U.length≤10) (h:St w1 B n L wc) (hK:Kinds K U wc) (I:row th U k L=some r):
    Calls Tryz.prog 83 #[.pointer (some ⟨B,0,none⟩), .func (.func g) #[.pointer (some ⟨B,0,none⟩)] #[], .slice (some ⟨K,0,none⟩) U.length U.length] wc (Ends w1 wc B n r):=by
  have Z:=Ja hK h;unfold row at I;cases ht:th L with
  |none=>rw[ht]at I;cases I
  |some r1=>
    rw[ht]at I;have HC:=mk0 (am L r1 wc n hn h ht);cases r1 with
    |none=>
      cases I;clear ht h;go_enter Tryz.func83,Tryz.ntmps83;go_wp2_with(go_at_fn g;(with_reducible refine HC.out.mono ?_);rintro e w2⟨⟨T,p,rfl⟩,au⟩);exact⟨rfl,⟨T,p,rfl⟩,au⟩
    |some l=>
      clear ht h;have HR:=mk0 I;have HK:=mk0 hK;clear I hK;go_enter Tryz.func83,Tryz.ntmps83;go_wp2_with(go_at_fn g;(with_reducible refine HC.out.mono ?_);rintro e w2⟨rfl,ah,ab⟩;have aw:=mk0 ah;have aq:=mk0 ab;have HK2:=mk0 (HK.out.kept Z ab);clear ah ab);go_loopg [6] (k) (fun kq v6 wr=>∃(L:List kD),eD (rows th U kq L=some r)∧eD (St w1 B n L wr)∧eD (Kinds K U wr)∧eD (Lib.OthersKept 118 (some B) wc wr));case atStart=>exact⟨l,HR,aw,HK2,aq⟩
      case round=>
        clear HC HR HK;obtain⟨L,HR,HS,HK,HO⟩:=hrel;cases L with
        |nil=>
          obtain⟨A,c,v,xs,h1,h2,h3,h4,h5,h6,h7⟩:=HS.out;have c0:wr.cell? ⟨B,0,none⟩=some (.slice A ([]:List kD).length c):=iF h1.out 0;obtain⟨k',G⟩:∃k',gk=k'+1:=by
            cases gk with
            |zero=>have:=HR.out;cases this
            |succ m=>exact⟨m,rfl⟩
          (have I:r=some []:=by have:=HR.out;rw[G]at this;cases this;rfl);clear G;go_wp2;go_end0;rw[I];exact⟨rfl,HS.out,HO.out⟩
        |cons x l=>
          obtain⟨k',G⟩:∃k',gk=k'+1:=by
            cases gk with
            |zero=>have:=HR.out;cases this
            |succ m=>exact⟨m,rfl⟩
          have ak:=mk0 G;have af:=mk0 (G▸HR.out);obtain⟨A,c,v,xs,h1,h2,h3,h4,h5,h6,h7⟩:=HS.out;obtain⟨ad,rfl,e0,e1⟩:=wH (Kd.iT h3.out h7.out) 0 (by omega) (by rw[List.length_cons];omega);have hx:wI (x::l) 0=x:=rfl;rw[hx]at e0;have e2:wr.cell? ad=some (.int .i64 x.f0):=e0;have c0:wr.cell? ⟨B,0,none⟩=some (.slice (some ad) (x::l).length c):=iF h1.out 0;(obtain⟨m,hm⟩:∃m,(x::l).length=m:=⟨_,rfl⟩);(have av:1≤m:=by rw[←hm,List.length_cons];omega);(obtain⟨n',aA⟩:∃n',n=n'+1:=⟨n-1,by have:=h5.out;omega⟩);rw[hm]at c0;have hl:decide ((0:Int)<(m:Int))=true:=decide_eq_true (by omega);(have hi:(0:Int)<(m:Int):=by omega);have aC:0<m:=av;have D:=Tryz.slices_Contains_int K 0 U.length U.length U x.f0 wr (Nat.le_refl _) (by omega) (Dn HK.out);rw[List.take_length]at D;clear G e0 e1 hx hm;cases hc:U.contains x.f0 with
          |false=>
            rw[hc]at D;have I:r=some (x::l):=by
              have h:=af.out;unfold rows at h;rw[if_neg (by rw[hc];exact Bool.false_ne_true)]at h;cases h;rfl
            have HN:=mk0 D;clear hc D;go_wp2_with(go_at_call 106;(with_reducible refine HN.out.mono ?_);rintro e w3⟨rfl,rfl⟩);go_end0;rw[I];exact⟨rfl,HS.out,HO.out⟩
          |true=>
            rw[hc]at D;have h:=af.out;unfold rows at h;rw[if_pos hc]at h;have HN:=mk0 D;clear hc D af HR;subst aA;have HT:=tT x.f0 hw HS.out;rw[show pass x.f0 (x::l)=some l from if_pos rfl]at HT;have ai:=mk0 HT;clear HT;cases ht:th l with
            |none=>rw[ht]at h;cases h
            |some r1=>
              rw[ht]at h;have aj:=mk0 (fun w' hs=>am l r1 w' n' (by omega) hs ht);cases r1 with
              |none=>
                cases h;clear ht;go_wp2_with(first|(go_at_call 106;(with_reducible refine HN.out.mono ?_);rintro e w3⟨rfl,rfl⟩)|(go_at_call 107;(with_reducible refine ai.out.mono ?_);rintro e w4⟨rfl,X,Y⟩;have ag:=mk0 X;clear X Y)|(go_at_fn g;(with_reducible refine(aj.out w4 ag.out).mono ?_);rintro e w5⟨⟨T,p,rfl⟩,ao⟩));exact⟨rfl,⟨T,p,rfl⟩,ao⟩
              |some l2=>
                have H2:=mk0 h;clear ht h;go_wp2_with(first|(go_at_call 106;(with_reducible refine HN.out.mono ?_);rintro e w3⟨rfl,rfl⟩)|(go_at_call 107;(with_reducible refine ai.out.mono ?_);rintro e w4⟨rfl,X,Y⟩;have ag:=mk0 X;have ap:=mk0 (HO.out.trans Y);have HK4:=mk0 (HK.out.kept Z Y);clear X Y)|(go_at_fn g;(with_reducible refine(aj.out w4 ag.out).mono ?_);rintro e w5⟨rfl,al,aa⟩;have ax:=mk0 al;have az:=mk0 (ap.out.trans aa);have HK5:=mk0 (HK4.out.kept Z aa);clear al aa)|(go_at_call 108;(with_reducible refine(kS x.f0 (by omega) ax.out).mono ?_);rintro e w6⟨rfl,an,ae⟩;have ay:=mk0 an;have ar:=mk0 (az.out.trans ae);have HK6:=mk0 (HK5.out.kept Z ae);clear an ae));go_roundg (gk-1);case measure=>have:=ak.out;omega
                case rel=>
                  (have e:gk-1=k':=by have:=ak.out;omega);rw[e];exact⟨l2,H2,ay,HK6,ar⟩
end Go.Proofs.Gd
