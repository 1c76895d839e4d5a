/- The reference's walker, its small methods: a part more, where a part ends, an error. -/
import Derived.Test.YtcaegaljhogbjaaGreatDoorRegTot
set_option linter.unusedSimpArgs false
set_option linter.unusedVariables false
set_option maxHeartbeats 8000000
set_option maxRecDepth 100000
namespace Go.Proofs.Ng
open RowKit Lib Go.Sort PW PL PM Y Gd Go.Proofs.Gr R
def Wt(w1:World)(B M:Nat)(d0 d1 d2:Value)(W:Wk)(wc:World):Prop:=
  ∃D:Value,eD (wc.heap[B]?=some (.cells #[d0,d1,d2,D, .slice (some ⟨M,0,none⟩) W.met.length W.met.length, .int .i64 W.e] 97 (0,0)))∧
    eD (wR.R 102 wc w1.heap.size (fun _=>True) D W.l)∧eD (wc.heap[M]?=some (.cells (W.met.map Value.bool).toArray 4 (0,0)))∧eD (w1.heap.size≤B∧w1.heap.size≤M∧W.met.length≤1000000∧W.l.length≤1000000)∧eD (Below w1.heap.size w1 wc)
def Kp(w w':World):Prop:=∀(k:Nat) (cells:Array Value) (q:TypeId),w.heap[k]?=some (.cells cells q (0,0))→q≠97→q≠102→q≠4→w'.heap[k]?=some (.cells cells q (0,0))
theorem Kp.refl(w:World):Kp w w:=fun _ _ _ h _ _ _=>h
theorem Kp.trans{a b c:World}(h:Kp a b)(h2:Kp b c):Kp a c:=fun k cells q e h1 D G=>h2 k cells q (h k cells q e h1 D G) h1 D G
theorem Kp.below{a b:World}(h:Below a.heap.size a b):Kp a b:=fun k cells q e _ _ _=>iW e h
theorem Kp.set{w w':World}{g t:Nat}{cs:Array Value}(h:Kp w w')(G:w'.heap[g]?=some (.cells cs t (0,0)))(ht:t=97∨t=102∨t=4)(i:Nat)(u:Value):Kp w (w'.setCell ⟨g,i,none⟩ u):=fun k cells q e h1 h2 D=>
  iw (h k cells q e h1 h2 D) (p:=⟨g,i,none⟩) (wD (h k cells q e h1 h2 D) G (by rintro rfl;rcases ht with h|h|h<;>contradiction)) u
theorem Kp.grown{w w' D:World}{v:Value}(h:Kp w w')(G:w'.grownBy D v.ownBlock)(ht:∀g,v.ownBlock=some g→∃cells,w'.heap[g]?=some (.cells cells 102 (0,0))):Kp w D:=fun k cells q e h1 h2 L=>by
  have e':=h k cells q e h1 h2 L
  refine qD e' G (fun hk=>?_)
  obtain⟨_,I⟩:=ht k hk.symm
  exact wD e' I h2 rfl
theorem Wt.below{w1 wc w':World}{B M:Nat}{d0 d1 d2:Value}{W:Wk}(h:Wt w1 B M d0 d1 d2 W wc)(D:Below wc.heap.size wc w'):Wt w1 B M d0 d1 d2 W w':=by
  obtain⟨U,h1,h2,L,I,G⟩:=h;exact⟨U,⟨iW h1.out D⟩,⟨Kd.qJ h2.out D⟩,⟨iW L.out D⟩,I,⟨kg G.out D⟩⟩
theorem Wt.old{w1 wc:World}{B M:Nat}{d0 d1 d2:Value}{W:Wk}(h:Wt w1 B M d0 d1 d2 W wc):Below w1.heap.size w1 wc:=by
  obtain⟨_,h1,_,_,_,D⟩:=h;exact D.out
theorem Wt.cells{w1 wc:World}{B M:Nat}{d0 d1 d2:Value}{W:Wk}(h:Wt w1 B M d0 d1 d2 W wc):
    (wc.cell? ⟨B,0,none⟩=some d0∧wc.cell? ⟨B,1,none⟩=some d1∧wc.cell? ⟨B,2,none⟩=some d2)∧wc.cell? ⟨B,5,none⟩=some (.int .i64 W.e)∧wc.frozen? ⟨B,5,none⟩=false:=by
  obtain⟨_,h1,_,_,_,_⟩:=h;exact⟨⟨(iF h1.out 0).trans rfl,(iF h1.out 1).trans rfl,(iF h1.out 2).trans rfl⟩,(iF h1.out 5).trans rfl,iP h1.out 5⟩
theorem Wt.len{w1 wc:World}{B M:Nat}{d0 d1 d2:Value}{W:Wk}(h:Wt w1 B M d0 d1 d2 W wc):W.l.length≤1000000:=by
  obtain⟨_,h1,_,_,D,_⟩:=h;exact D.out.2.2.2
theorem Au:∀q,q∈102::wR.E→q≠97∧q≠4:=by
  intro q D;have e:q=102:=by simpa[show wR.E=[]from rfl]using D
  subst e;decide
theorem Jq:(Tryz.prog.info? 102).map (fun i=>(i.zero,i.size,i.bytes))=some (some (.agg #[(.int .i64 0),(.int .i64 0),(.int .i64 0),(.int .i64 0)]),4,32):=by kernel_rfl
theorem Wt.see{w1 wc:World}{B M:Nat}{d0 d1 d2:Value}{W W':Wk}{n:Int}(h:Wt w1 B M d0 d1 d2 W wc)(hs:see W n=some W'):
    0≤wrap64 (n-1)∧wrap64 (n-1)<(W.met.length:Int)∧(∃x,wc.cell? ⟨M,(wrap64 (n-1)).toNat,none⟩=some x)∧wc.frozen? ⟨M,(wrap64 (n-1)).toNat,none⟩=false∧
      Wt w1 B M d0 d1 d2 W' (wc.setCell ⟨M,(wrap64 (n-1)).toNat,none⟩ (.bool true))∧Kp wc (wc.setCell ⟨M,(wrap64 (n-1)).toNat,none⟩ (.bool true))∧W'.met.length=W.met.length∧W'.l=W.l∧W'.e=W.e:=by
  unfold Ng.see at hs
  split at hs
  · rename_i Y
    cases hs;obtain⟨X,h1,h2,D,I,L⟩:=h;have Z:=I.out.2.2.1;(have e:wrap64 (n-1)=n-1:=by unfold wrap64;omega);rw[e];(have G:(n-1).toNat<W.met.length:=by omega);refine⟨by omega,by omega,⟨.bool W.met[(n-1).toNat],(iF D.out _).trans (by rw[List.getElem?_toArray,List.getElem?_map,List.getElem?_eq_getElem G];rfl)⟩,iP D.out _,⟨X,⟨?_⟩,⟨Kd.wL h2.out D.out (fun q U=>(Au q U).2) _ _⟩,⟨?_⟩,⟨by simpa using I.out⟩,⟨kr L.out I.out.2.1⟩⟩,Kp.set (Kp.refl _) D.out (Or.inr (Or.inr rfl)) _ _,by simp,rfl,rfl⟩
    · have:=iw h1.out (p:=⟨M,(n-1).toNat,none⟩) (wD h1.out D.out (by decide)) (.bool true)
      simpa using this
    · exact eY D.out _ _ (by simp)
  · cases hs
theorem KR{w:World}{b:Nat}{v:Value}{xs:List uw}{x:uw}(h:wR.R 102 w b (fun _=>True) v (xs++[x])):∃A c,v= .slice A (xs.length+1) c:=by
  obtain⟨A,c,e⟩:=Kd.qw h;exact⟨A,c,by rw[e,List.length_append,List.length_singleton]⟩
theorem Wt.app {w1 wc D:World} {B M:Nat} {d0 d1 d2 U I:Value} {W:Wk} {x:uw} (h1:wc.heap[B]?=some (.cells #[d0,d1,d2,U, .slice (some ⟨M,0,none⟩) W.met.length W.met.length, .int .i64 W.e] 97 (0,0)))
    (h2:wR.R 102 wc w1.heap.size (fun _=>True) U W.l) (h3:wc.heap[M]?=some (.cells (W.met.map Value.bool).toArray 4 (0,0))) (L:w1.heap.size≤B∧w1.heap.size≤M∧W.met.length≤1000000∧W.l.length≤1000000) (hl:W.l.length<1000000)
    (ho:wR.R 102 D w1.heap.size (fun _=>True) I (W.l++[x])) (hb:Below w1.heap.size w1 D) (Z:wc.grownBy D U.ownBlock):
    D.cell? ⟨B,3,none⟩=some U∧D.frozen? ⟨B,3,none⟩=false∧Wt w1 B M d0 d1 d2 {W with l:=W.l++[x]} (D.setCell ⟨B,3,none⟩ I)∧Kp wc (D.setCell ⟨B,3,none⟩ I):=by
  have Y:=Kd.sH h2 h1 (by decide);have X:=Kd.sH h2 h3 (by decide);have G:=qD h1 Z Y;have m3:=qD h3 Z X;refine⟨(iF G 3).trans rfl,iP G 3,⟨I,⟨eY G 3 _ rfl⟩,⟨Kd.wL ho G (fun q hq=>(Au q hq).1) 3 _⟩,⟨iw m3 (p:=⟨B,3,none⟩) (wD m3 G (by decide)) _⟩,⟨⟨L.1,L.2.1,L.2.2.1,by simp;omega⟩⟩,⟨kr hb L.1⟩⟩,Kp.set (Kp.grown (Kp.refl _) Z (Kd.uE h2)) G (Or.inl rfl) 3 _⟩
section
variable {ops:Array Oper} {rest:List Oper} {o:Oper} {a:Act} {Q:Exit→Act→World→Prop}
theorem Wt.push {w1 wc:World} {B M:Nat} {d0 d1 d2:Value} {W:Wk} (h:Wt w1 B M d0 d1 d2 W wc) (hl:W.l.length<1000000) (p:uw) (Y:o.guard=none) (s x:Operand)
    (ho:o.op= .call {callee:= .builtin .append,args:=#[s,x],argTypes:=#[74,74]}) (hx:a.eval x= .slice (some ⟨wc.heap.size,0,none⟩) 1 1) (hs:∀D,wc.cell? ⟨B,3,none⟩=some D→a.eval s=D)
    (k:∀L c3 G D,G.cell? ⟨B,3,none⟩=some D→G.frozen? ⟨B,3,none⟩=false→Wt w1 B M d0 d1 d2 {W with l:=W.l++[p]} (G.setCell ⟨B,3,none⟩ (.slice L (W.l.length+1) c3))→Kp wc (G.setCell ⟨B,3,none⟩ (.slice L (W.l.length+1) c3))→
      wpList Tryz.prog ops Q rest (a.put o.dst (.slice L (W.l.length+1) c3)) G):
    wpList Tryz.prog ops Q (o::rest) a (wc.alloc (.cells #[.int .i64 p.f0, .int .i64 p.f1, .int .i64 p.f2, .int .i64 p.f3] 102)):=by
  obtain⟨D,h1,h2,h3,h4,h5⟩:=h;refine Kd.rF wR (w0:=w1) w1.heap.size Y s x 74 102 (.agg #[(.int .i64 0),(.int .i64 0),(.int .i64 0),(.int .i64 0)]) 32 ho Tryz.underlying74 Jq rfl (by decide) (by omega) D W.l p [.int .i64 p.f0, .int .i64 p.f1, .int .i64 p.f2, .int .i64 p.f3] (fun _=>True) (fun _=>False) (hs D ((iF h1.out 3).trans rfl)) hx (DL _ _ _ p) (fun _ hk=>hk.elim) (fun _ _=>trivial) h2.out h5.out (kN h5.out) (by omega) ?_;intro v1 G I hb hg ae;obtain⟨X,Z,U,aa⟩:=Wt.app h1.out h2.out h3.out h4.out hl I hb hg;obtain⟨L,ab,rfl⟩:=KR I;exact k L ab G D X Z U aa
end
theorem Wt.c4{w1 wc:World}{B M:Nat}{d0 d1 d2:Value}{W:Wk}(h:Wt w1 B M d0 d1 d2 W wc):wc.cell? ⟨B,4,none⟩=some (.slice (some ⟨M,0,none⟩) W.met.length W.met.length):=by
  obtain⟨_,h1,_,_,_,_⟩:=h;exact(iF h1.out 4).trans rfl
theorem Wt.c3{w1 wc:World}{B M:Nat}{d0 d1 d2:Value}{W:Wk}(h:Wt w1 B M d0 d1 d2 W wc):∃A c,wc.cell? ⟨B,3,none⟩=some (.slice A W.l.length c):=by
  obtain⟨_,h1,h2,_,_,_⟩:=h;obtain⟨A,c,rfl⟩:=Kd.qw h2.out;exact⟨A,c,(iF h1.out 3).trans rfl⟩
theorem kS(kd n Y d:Int){w1 wc:World}{B M:Nat}{d0 d1 d2:Value}{W W':Wk}(h:Wt w1 B M d0 d1 d2 W wc)(G:AJ W kd n Y d=some W'):
    Calls Tryz.prog 90 #[.pointer (some ⟨B,0,none⟩), .int .i64 kd, .int .i64 n, .int .i64 Y, .int .i64 d] wc fun e w'=>e= .returned (.int .i64 W.l.length)∧Wt w1 B M d0 d1 d2 W' w'∧Kp wc w':=by
  obtain⟨_,_,c3⟩:=Wt.c3 h;have HT:=mk0 h;unfold AJ at G
  split at G
  case isFalse=>cases G
  rename_i Z
  have HL:=mk0 Z;have hw:wrap64 (W.l.length:Int)=W.l.length:=by unfold wrap64;omega
  clear Z h;by_cases hk:kd=8
  · rw[if_pos hk]at G
    by_cases hl:0<Y
    · rw[if_pos hl]at G;cases G
    rw[if_neg hl]at G;cases G;have kb:(kd !=8)=false:=bne_eq_false_iff_eq.mpr hk;have lb:decide (0<Y)=false:=decide_eq_false hl;clear hk;go_enter Tryz.func90,Tryz.ntmps90;go_wp2_with(first|((with_reducible refine kW (b:= .append) (xs:=#[.tmp 15, .tmp 21]) rfl ?_);(try(refine qg (by rfl) ?_;dsimp only));at_builtin;refine Wt.push HT.out HL.out ⟨kd,n,Y,d⟩ rfl (.tmp 15) (.tmp 21) rfl rfl (fun vl h=>Option.some.inj (c3.symm.trans h)) ?_;intro A4 c4 w3 af ab ae D I;obtain⟨A6,c6,g6⟩:=Wt.c3 D;rw[List.length_append,List.length_singleton]at g6;have HK5:=mk0 I;have X:=mk0 D;clear D I));go_ret;exact⟨rfl,X.out,HK5.out⟩
  · rw[if_neg hk]at G
    obtain⟨_,hs,G⟩:=Option.bind_eq_some_iff.mp G;have kb:(kd !=8)=true:=bne_iff_ne.mpr hk;have HS:=mk0 hs;clear hs;unfold seen at G;by_cases hl:0<Y
    · rw[if_pos hl]at G
      have lb:decide (0<Y)=true:=decide_eq_true hl;have HP:=mk0 G;clear hk G;go_enter Tryz.func90,Tryz.ntmps90;go_wp2_with(first|((with_reducible refine kW (b:= .append) (xs:=#[.tmp 15, .tmp 21]) rfl ?_);(try(refine qg (by rfl) ?_;dsimp only));at_builtin;refine Wt.push HT.out HL.out ⟨kd,n,Y,d⟩ rfl (.tmp 15) (.tmp 21) rfl rfl (fun vl h=>Option.some.inj (c3.symm.trans h)) ?_;intro A4 c4 w3 af ab ae D I;obtain⟨n1,n2,⟨x5,c5⟩,f5,L,U,m5,l5,e5⟩:=Wt.see D HS.out;have ah:=Wt.c4 D;have ai:=Wt.c4 L;obtain⟨_,_,⟨_,_⟩,_,aa,ag,m7,l7,e7⟩:=Wt.see L HP.out;obtain⟨A6,c6,g6⟩:=Wt.c3 aa;rw[l7,l5,List.length_append,List.length_singleton]at g6;have HK5:=mk0 ((I.trans U).trans ag);have X:=mk0 aa;clear D I L U aa ag m5 l5 e5 m7 l7 e7));go_ret;exact⟨rfl,X.out,HK5.out⟩
    · rw[if_neg hl]at G
      cases G;have lb:decide (0<Y)=false:=decide_eq_false hl;clear hk;go_enter Tryz.func90,Tryz.ntmps90;go_wp2_with(first|((with_reducible refine kW (b:= .append) (xs:=#[.tmp 15, .tmp 21]) rfl ?_);(try(refine qg (by rfl) ?_;dsimp only));at_builtin;refine Wt.push HT.out HL.out ⟨kd,n,Y,d⟩ rfl (.tmp 15) (.tmp 21) rfl rfl (fun vl h=>Option.some.inj (c3.symm.trans h)) ?_;intro A4 c4 w3 af ab ae D I;obtain⟨n1,n2,⟨x5,c5⟩,f5,L,U,m5,l5,e5⟩:=Wt.see D HS.out;have ah:=Wt.c4 D;obtain⟨A6,c6,g6⟩:=Wt.c3 L;rw[l5,List.length_append,List.length_singleton]at g6;have HK5:=mk0 (I.trans U);have X:=mk0 L;clear D I L U m5 l5 e5));go_ret;exact⟨rfl,X.out,HK5.out⟩
theorem Wt.ends{w1 wc:World}{B M:Nat}{d0 d1 d2:Value}{W:Wk}(h:Wt w1 B M d0 d1 d2 W wc){i:Nat}(hi:i<W.l.length)(n:Int):
    ∃g cap x,wc.cell? ⟨B,3,none⟩=some (.slice (some ⟨g,0,none⟩) W.l.length cap)∧wc.cell? ⟨g,i*4+2,none⟩=some x∧wc.frozen? ⟨g,i*4+2,none⟩=false∧
      Wt w1 B M d0 d1 d2 {W with l:=W.l.set i {kC W.l (i:Int)with f2:=n}} (wc.setCell ⟨g,i*4+2,none⟩ (.int .i64 n))∧Kp wc (wc.setCell ⟨g,i*4+2,none⟩ (.int .i64 n)):=by
  obtain⟨_,h1,h2,h3,h4,h5⟩:=h;obtain⟨g,cap,rfl,Y,_,_,X⟩:=Kd.xD h2.out (by omega);obtain⟨c,U,hM,D,L⟩:=Kd.uj h2.out Kl (i:Int) (by omega) (by omega);have ae:c.length=4:=U;have I:wR.sz=4:=rfl;rw[I]at D L;have G:=EF hM;have e0:((i:Int)).toNat=i:=by omega
  rw[e0]at D L G hM
  obtain⟨hr,Z⟩:=Kd.zl (seg:=[.int .i64 n]) (j:=2) h2.out (i:Int) (by omega) (by omega) U (by rw[I,e0];exact D) (show 2+1≤4 by decide) (x':={kC W.l (i:Int)with f2:=n}) (okp:=fun _=>False) (by
    rw[G]
    exact DL _ _ _ {kC W.l (i:Int)with f2:=n}) (fun _ h=>h.elim)
  rw[I,e0]at hr Z;change wR.R 102 (wc.setCell ⟨g,i*4+2,none⟩ (.int .i64 n)) _ _ _ _ at hr;have ab:=wD h1.out X (by decide);have aa:=wD h3.out X (by decide);refine⟨g,cap,_,(iF h1.out 3).trans rfl,D 2 _ (by rw[G];rfl),L 2,⟨_,⟨?_⟩,⟨by simpa using hr⟩,⟨iw h3.out (p:=⟨g,i*4+2,none⟩) aa _⟩,⟨by simpa using h4.out⟩,⟨kr h5.out Y⟩⟩,Kp.set (Kp.refl _) X (Or.inr (Or.inl rfl)) _ _⟩;have:=iw h1.out (p:=⟨g,i*4+2,none⟩) ab (.int .i64 n);simpa using this
theorem xG(i:Nat)(n:Int){w1 wc:World}{B M:Nat}{d0 d1 d2:Value}{W W':Wk}(h:Wt w1 B M d0 d1 d2 W wc)(I:yK W i n=some W'):
    Calls Tryz.prog 137 #[.pointer (some ⟨B,0,none⟩), .int .i64 (i:Int), .int .i64 n] wc fun e w'=>e= .returned (.tuple #[])∧Wt w1 B M d0 d1 d2 W' w'∧Kp wc w':=by
  unfold yK at I
  split at I
  case isFalse=>cases I
  rename_i hi
  have hl:=h.len;obtain⟨g,_,x,_,_,_,ht,hk⟩:=Wt.ends h hi n;obtain⟨_,_,⟨_,_⟩,_,G,D,m5,X,U⟩:=Wt.see ht I;have c4:=Wt.c4 ht;have L:=mk0 G;have HK5:=mk0 (hk.trans D);have i1:(i:Int)<(W.l.length:Int):=by omega
  have Y:(0:Int)≤(i:Int):=by omega
  clear ht hk G D m5 X U h I;go_enter Tryz.func137,Tryz.ntmps137;go_wp2;go_end0;exact⟨rfl,L.out,HK5.out⟩
theorem Wt.err{w1 wc:World}{B M:Nat}{d0 d1 d2:Value}{W:Wk}(h:Wt w1 B M d0 d1 d2 W wc)(e:Int)(I:W.e=0):Wt w1 B M d0 d1 d2 (rR W e) (wc.setCell ⟨B,5,none⟩ (.int .i64 e))∧Kp wc (wc.setCell ⟨B,5,none⟩ (.int .i64 e)):=by
  obtain⟨X,h1,h2,D,G,L⟩:=h;unfold rR;rw[if_pos I];exact⟨⟨X,⟨eY h1.out 5 _ rfl⟩,⟨Kd.wL h2.out h1.out (fun q U=>(Au q U).1) 5 _⟩,⟨iw D.out (p:=⟨B,5,none⟩) (wD D.out h1.out (by decide)) _⟩,G,⟨kr L.out G.out.1⟩⟩,Kp.set (Kp.refl _) h1.out (Or.inl rfl) 5 _⟩
theorem qy(e:Int){w1 wc:World}{B M:Nat}{d0 d1 d2:Value}{W:Wk}(h:Wt w1 B M d0 d1 d2 W wc):
    Calls Tryz.prog 67 #[.pointer (some ⟨B,0,none⟩), .int .i64 e] wc fun e' w'=>e'= .returned (.int .i64 0)∧Wt w1 B M d0 d1 d2 (rR W e) w'∧Kp wc w':=by
  obtain⟨_,_,_⟩:=Wt.cells h;by_cases D:W.e=0
  · obtain⟨ht,hk⟩:=Wt.err h e D
    have G:=mk0 ht;have HK:=mk0 hk;have L:(W.e==0)=true:=beq_iff_eq.mpr D;clear ht hk h D;go_enter Tryz.func67,Tryz.ntmps67;go_wp2;go_ret;exact⟨rfl,G.out,HK.out⟩
  · have I:rR W e=W:=by unfold rR;rw[if_neg D]
    rw[I];have L:(W.e==0)=false:=beq_eq_false_iff_ne.mpr D;have G:=mk0 h;clear D h I;go_enter Tryz.func67,Tryz.ntmps67;go_wp2;go_ret;exact⟨rfl,G.out,Kp.refl _⟩
theorem Wt.part{w1 wc:World}{B M:Nat}{d0 d1 d2:Value}{W:Wk}(h:Wt w1 B M d0 d1 d2 W wc){k:Nat}(hk:k<W.l.length):
    ∃ad c,wc.cell? ⟨B,3,none⟩=some (.slice (some ad) W.l.length c)∧wc.cell? (ad.add (k*4))=some (.int .i64 W.l[k].f0):=by
  obtain⟨_,h1,h2,_,_,_⟩:=h;obtain⟨A,c,rfl,_,I⟩:=Kd.vP h2.out;obtain⟨ad,rfl,G,_⟩:=sj I (k:Int) (by omega) (by omega);refine⟨ad,c,(iF h1.out 3).trans rfl,?_⟩;have D:((k:Int)).toNat=k:=by omega
  rw[D]at G;rw[G];have L:kC W.l (k:Int)=W.l[k]:=by unfold kC;rw[D,List.getD_eq_getElem?_getD,List.getElem?_eq_getElem hk];rfl
  rw[L]
theorem zY(i:Nat){w1 wc:World}{B M:Nat}{d0 d1 d2:Value}{W:Wk}(h:Wt w1 B M d0 d1 d2 W wc)(hi:i≤1000000):
    Calls Tryz.prog 136 #[.pointer (some ⟨B,0,none⟩), .int .i64 (i:Int)] wc fun e w'=>e= .returned (.bool (wW W.l i))∧w'=wc:=by
  have Z:=mk0 h;have hl:=h.len;have HL:=mk0 hl;have hw:wrap64 ((i:Int)+1)=((i+1:Nat):Int):=by unfold wrap64;omega
  have HI:=mk0 hi;clear h hl hi;go_enter Tryz.func136,Tryz.ntmps136;go_wp2;go_loopg [5] (W.l.length-(i+1)) (fun kq v5 wr=>∃k:Nat,v5= .int .i64 (k:Int)∧eD (W.l.length≤k+kq)∧eD ((W.l.drop k).any (fun p=>p.f0==2||p.f0==3)=wW W.l i)∧eD (wr=wc));case atStart=>exact⟨i+1,by rw[hw],⟨by have:=HI.out;omega⟩,⟨rfl⟩,⟨rfl⟩⟩
  case round=>
    obtain⟨k,rfl,HK,L,Y⟩:=hrel;cases Y.out;clear Y;by_cases hk:k<W.l.length
    · obtain⟨_,c,c3,_⟩:=Z.out.part hk
      have hd:=L.out;rw[List.drop_eq_getElem_cons hk,List.any_cons]at hd;(have X:wrap64 ((k:Int)+1)=((k+1:Nat):Int):=by have:=HL.out;unfold wrap64;omega);have kb:decide ((k:Int)<(W.l.length:Int))=true:=decide_eq_true (by omega);(have k0:(0:Int)≤(k:Int):=by omega);(have k1:(k:Int)<(W.l.length:Int):=by omega);have D:=mk0 hd;clear hd L;by_cases h2:W.l[k].f0=2
      · have b2:(W.l[k].f0==2)=true:=beq_iff_eq.mpr h2
        (have G:wW W.l i=true:=by rw[←D.out,b2];rfl);clear h2 D;go_wp2;go_ret;exact⟨by rw[G];rfl,rfl⟩
      · have b2:(W.l[k].f0==2)=false:=beq_eq_false_iff_ne.mpr h2
        by_cases I:W.l[k].f0=3
        · have U:(W.l[k].f0==3)=true:=beq_iff_eq.mpr I
          (have G:wW W.l i=true:=by rw[←D.out,b2,U];rfl);clear h2 I D;go_wp2;go_ret;exact⟨by rw[G];rfl,rfl⟩
        · have U:(W.l[k].f0==3)=false:=beq_eq_false_iff_ne.mpr I
          (have HR:eD ((W.l.drop (k+1)).any (fun p=>p.f0==2||p.f0==3)=wW W.l i):=⟨by rw[←D.out,b2,U];rfl⟩);clear h2 I D;go_wp2;go_roundg (gk-1);(case measure=>have:=HK.out;omega);case rel=>exact⟨k+1,by rw[X],⟨by have:=HK.out;omega⟩,HR,⟨rfl⟩⟩
    · have G:wW W.l i=false:=by
        have hd:=L.out;rw[List.drop_of_length_le (by omega)]at hd;exact hd.symm
      have kb:decide ((k:Int)<(W.l.length:Int))=false:=decide_eq_false (by omega)
      obtain⟨A,c,c3⟩:=Z.out.c3
      clear L
      go_wp2
      go_ret
      exact⟨by rw[G];rfl,rfl⟩
theorem uM(i:Nat)(h:i≤1000000):wrap64 ((i:Int)+1)=((i+1:Nat):Int):=by unfold wrap64;omega
theorem FU{l2:List S40}{i:Nat}(h:i<l2.length):iR l2 (i:Int)=l2[i]:=by
  unfold iR;rw[show((i:Int)).toNat=i by omega,List.getD_eq_getElem?_getD,List.getElem?_eq_getElem h];rfl
theorem Et{l1:List S38}{i:Nat}(h:i<l1.length):iH l1 (i:Int)=l1[i]:=by
  unfold iH;rw[show((i:Int)).toNat=i by omega,List.getD_eq_getElem?_getD,List.getElem?_eq_getElem h];rfl
section
variable {l1:List S38} {l2:List S40} {s:ByteArray}
theorem yC(D:l2.length≤1000000)(x:Int):∀(m k i:Nat) (xs:List Int),i+m=l2.length→m<k→xs.length≤i→iD.l0 k x xs i s l1 l2=some (xs++ix (fun y=>y.f0==x) i (l2.drop i))
  |m,0,i,xs,_,h,_=>by omega
  |m,k+1,i,xs,hm,hk,hx=>by
    rw[iD.l0]
    by_cases c:i<l2.length
    · obtain⟨m,rfl⟩:∃d,m=d+1:=⟨m-1,by omega⟩
      rw[if_pos (by omega),if_pos (by omega),uM i (by omega),FU c,List.drop_eq_getElem_cons c,ix];by_cases e:l2[i].f0=x
      · rw[if_pos e,if_pos (by omega),if_pos (by simpa using e),yC D x m k (i+1) _ (by omega) (by omega) (by simp;omega)]
        simp
      · rw[if_neg e,if_neg (by simpa using e),yC D x m k (i+1) _ (by omega) (by omega) (by omega)]
    · rw[if_neg (by omega),List.drop_of_length_le (by omega),ix,List.append_nil]
theorem Ce(D:l2.length≤1000000)(x:Int):∀(m k i:Nat) (xs:List Int),i+m=l2.length→m<k→xs.length≤i→iM.l0 k x xs i s l1 l2=some (xs++ix (fun y=>y.f1==x) i (l2.drop i))
  |m,0,i,xs,_,h,_=>by omega
  |m,k+1,i,xs,hm,hk,hx=>by
    rw[iM.l0]
    by_cases c:i<l2.length
    · obtain⟨m,rfl⟩:∃d,m=d+1:=⟨m-1,by omega⟩
      rw[if_pos (by omega),if_pos (by omega),uM i (by omega),FU c,List.drop_eq_getElem_cons c,ix];by_cases e:l2[i].f1=x
      · rw[if_pos e,if_pos (by omega),if_pos (by simpa using e),Ce D x m k (i+1) _ (by omega) (by omega) (by simp;omega)]
        simp
      · rw[if_neg e,if_neg (by simpa using e),Ce D x m k (i+1) _ (by omega) (by omega) (by omega)]
    · rw[if_neg (by omega),List.drop_of_length_le (by omega),ix,List.append_nil]
theorem yB(D:l1.length≤1000000)(x:Int):∀(m k i:Nat) (xs:List Int),i+m=l1.length→m<k→xs.length≤i→iE.l0 k x xs i s l1 l2=some (xs++ix (fun y=>y.f1==x) i (l1.drop i))
  |m,0,i,xs,_,h,_=>by omega
  |m,k+1,i,xs,hm,hk,hx=>by
    rw[iE.l0]
    by_cases c:i<l1.length
    · obtain⟨m,rfl⟩:∃d,m=d+1:=⟨m-1,by omega⟩
      rw[if_pos (by omega),if_pos (by omega),uM i (by omega),Et c,List.drop_eq_getElem_cons c,ix];by_cases e:l1[i].f1=x
      · rw[if_pos e,if_pos (by omega),if_pos (by simpa using e),yB D x m k (i+1) _ (by omega) (by omega) (by simp;omega)]
        simp
      · rw[if_neg e,if_neg (by simpa using e),yB D x m k (i+1) _ (by omega) (by omega) (by omega)]
    · rw[if_neg (by omega),List.drop_of_length_le (by omega),ix,List.append_nil]
theorem zQ(G:l1.length≤1000000)(x:Int):∀(m k i:Nat) (xs:List Int),i+m=l1.length→m<k→xs.length≤i→kL.l0 k x xs i s l1 l2=some (xs++ix (fun y=>decide (1≤x)&&y.f3==x&&(y.f0==8||y.f0==9)) i (l1.drop i))
  |m,0,i,xs,_,h,_=>by omega
  |m,k+1,i,xs,hm,hk,hx=>by
    rw[kL.l0]
    by_cases c:i<l1.length
    · obtain⟨m,rfl⟩:∃d,m=d+1:=⟨m-1,by omega⟩
      rw[if_pos (by omega),if_pos (by omega),uM i (by omega),Et c,List.drop_eq_getElem_cons c,ix];have I:=zQ G x m k (i+1) (xs++[((i+1:Nat):Int)]) (by omega) (by omega) (by simp;omega);have Y:=zQ G x m k (i+1) xs (by omega) (by omega) (by omega);(have D:xs.length<17592186044416:=by omega);rw[List.append_assoc]at I;by_cases L:x≥1<;>by_cases Z:l1[i].f3=x<;>by_cases U:l1[i].f0=8<;>by_cases X:l1[i].f0=9<;>simp[L,Z,U,X,D,I,Y,show(1≤x)=(x≥1)from rfl]<;>simp_all
    · rw[if_neg (by omega),List.drop_of_length_le (by omega),ix,List.append_nil]
theorem zu(D:l2.length≤1000000)(fs:List Int)(hs:fs.length≤1000000)(hi:∀f∈fs,inF l2 f):∀(m k i:Nat) (xs:List Int),i+m=fs.length→m<k→xs.length≤i→kE.l0 k xs fs (fs.length:Int) i s l1 l2=some (xs++again l2 (fs.drop i))
  |m,0,i,xs,_,h,_=>by omega
  |m,k+1,i,xs,hm,hk,hx=>by
    rw[kE.l0]
    by_cases c:i<fs.length
    · obtain⟨m,rfl⟩:∃d,m=d+1:=⟨m-1,by omega⟩
      (have G:rd fs (i:Int)=fs[i]:=by unfold rd;rw[show((i:Int)).toNat=i by omega,List.getD_eq_getElem?_getD,List.getElem?_eq_getElem c];rfl);obtain⟨h1,_⟩:=hi fs[i] (List.getElem_mem c);(have I:wrap64 (fs[i]-1)=fs[i]-1:=by unfold wrap64;omega);rw[if_pos (by omega),if_pos (by omega),if_pos (by omega),G,I,if_pos (by omega),if_pos (by omega),uM i (by omega),List.drop_eq_getElem_cons c];unfold again;rw[List.filter_cons];by_cases e:(flw l2 fs[i]).f2=3
      · rw[if_pos (show(iR l2 (fs[i]-1)).f2=3 from e),if_pos (by omega),if_pos (by simpa using e),zu D fs hs hi m k (i+1) _ (by omega) (by omega) (by simp;omega)]
        unfold again;simp
      · rw[if_neg (show ¬(iR l2 (fs[i]-1)).f2=3 from e),if_neg (by simpa using e),zu D fs hs hi m k (i+1) _ (by omega) (by omega) (by omega)]
        rfl
    · rw[if_neg (by omega),List.drop_of_length_le (by omega)]
      simp[again]
end
structure Df(w:World)(A1:Option Addr)(c1:Nat)(l1:List S38)(A2:Option Addr)(c2:Nat)(l2:List S40):Prop where
  r1:Kd.C k38 w A1 l1.length l1
  h1:l1.length≤c1
  r2:Kd.C k40 w A2 l2.length l2
  h2:l2.length≤c2
  n1:l1.length≤100000
  n2:l2.length≤100000
theorem Df.below{w w':World}{A1:Option Addr}{c1:Nat}{l1:List S38}{A2:Option Addr}{c2:Nat}{l2:List S40}(h:Df w A1 c1 l1 A2 c2 l2)(D:Below w.heap.size w w'):Df w' A1 c1 l1 A2 c2 l2:=
  ⟨Kd.iT h.r1 D,h.h1,Kd.iT h.r2 D,h.h2,h.n1,h.n2⟩
def Li(v:Value)(xs:List Int)(w:World):Prop:=∃base,(Kd.int .i64).R 3 w base (fun _=>True) v xs
theorem Li.reads{v:Value}{xs:List Int}{w:World}(h:Li v xs w):∃A c,v= .slice A xs.length c∧xs.length≤c∧Kd.C (Kd.int .i64) w A xs.length xs:=by
  obtain⟨base,h⟩:=h;exact Kd.vP h
theorem Li.kept{v:Value}{xs:List Int}{w w':World}(h:Li v xs w)(hk:Kp w w'):Li v xs w':=by
  obtain⟨base,h⟩:=h
  exact⟨base,Kd.IQ (DR (Kd.Ic h) (fun k G=>by
    obtain⟨cells,D⟩:=Kd.uE h k G
    rw[hk k cells 3 D (by decide) (by decide) (by decide),D])) (fun _ _=>trivial)⟩
theorem Li.at{A:Option Addr}{n c:Nat}{xs:List Int}{w:World}(h:Li (.slice A n c) xs w){j:Nat}(I:j<xs.length):∃ad,A=some ad∧w.cell? (ad.add j)=some (.int .i64 xs[j]):=by
  obtain⟨_,_,e,_,L⟩:=h.reads;cases e;obtain⟨ad,e,D⟩:=Kd.tV L (j:Int) (by omega) (by omega);refine⟨ad,e,?_⟩;have G:((j:Int)).toNat=j:=by omega
  rw[G]at D;rw[D];unfold rd;rw[G,List.getD_eq_getElem?_getD,List.getElem?_eq_getElem I];rfl
section
variable {w:World} {A1 A2:Option Addr} {c1 c2:Nat} {l1:List S38} {l2:List S40} (hd:Df w A1 c1 l1 A2 c2 l2) (s:ByteArray) (n:Int)
include hd
theorem qK:Calls Tryz.prog 13 #[.agg #[.string s, .slice A1 l1.length c1, .slice A2 l2.length c2], .int .i64 n] w fun e w'=>∃v,e= .returned v∧Li v (outs l2 n) w'∧Below w.heap.size w w':=by
  have I:=hd.n2;refine(iD.calls (l2.length+1) s A1 c1 l1 A2 c2 l2 n (outs l2 n) w hd.r1 hd.h1 hd.r2 hd.h2 (yC (by omega) n l2.length (l2.length+1) 0 [] (by omega) (by omega) (Nat.zero_le _))).mono ?_;rintro e w'⟨v,rfl,G,D⟩;exact⟨v,rfl,⟨_,G⟩,D⟩
theorem uJ:Calls Tryz.prog 51 #[.agg #[.string s, .slice A1 l1.length c1, .slice A2 l2.length c2], .int .i64 n] w fun e w'=>∃v,e= .returned v∧Li v (ins l2 n) w'∧Below w.heap.size w w':=by
  have I:=hd.n2;refine(iM.calls (l2.length+1) s A1 c1 l1 A2 c2 l2 n (ins l2 n) w hd.r1 hd.h1 hd.r2 hd.h2 (Ce (by omega) n l2.length (l2.length+1) 0 [] (by omega) (by omega) (Nat.zero_le _))).mono ?_;rintro e w'⟨v,rfl,G,D⟩;exact⟨v,rfl,⟨_,G⟩,D⟩
theorem Cy:Calls Tryz.prog 52 #[.agg #[.string s, .slice A1 l1.length c1, .slice A2 l2.length c2], .int .i64 n] w fun e w'=>∃v,e= .returned v∧Li v (inside l1 n) w'∧Below w.heap.size w w':=by
  have I:=hd.n1;refine(iE.calls (l1.length+1) s A1 c1 l1 A2 c2 l2 n (inside l1 n) w hd.r1 hd.h1 hd.r2 hd.h2 (yB (by omega) n l1.length (l1.length+1) 0 [] (by omega) (by omega) (Nat.zero_le _))).mono ?_;rintro e w'⟨v,rfl,G,D⟩;exact⟨v,rfl,⟨_,G⟩,D⟩
theorem vR:Calls Tryz.prog 135 #[.agg #[.string s, .slice A1 l1.length c1, .slice A2 l2.length c2], .int .i64 n] w fun e w'=>∃v,e= .returned v∧Li v (timers l1 n) w'∧Below w.heap.size w w':=by
  have I:=hd.n1;refine(kL.calls (l1.length+1) s A1 c1 l1 A2 c2 l2 n (timers l1 n) w hd.r1 hd.h1 hd.r2 hd.h2 (zQ (by omega) n l1.length (l1.length+1) 0 [] (by omega) (by omega) (Nat.zero_le _))).mono ?_;rintro e w'⟨v,rfl,G,D⟩;exact⟨v,rfl,⟨_,G⟩,D⟩
theorem rA:Calls Tryz.prog 48 #[.agg #[.string s, .slice A1 l1.length c1, .slice A2 l2.length c2], .int .i64 n] w fun e w'=>e= .returned (.int .i64 (iC l1 n))∧Below w.heap.size w w':=by
  have D:=hd.n1;exact iL.calls s A1 c1 l1 A2 c2 l2 n (iC l1 n) w hd.r1 hd.h1 hd.r2 hd.h2 (rV (by omega) n)
theorem rO{A:Option Addr}{m c:Nat}{fs:List Int}(hl:Li (.slice A m c) fs w)(hs:fs.length≤1000000)(hi:∀f∈fs,inF l2 f):
    Calls Tryz.prog 70 #[.agg #[.string s, .slice A1 l1.length c1, .slice A2 l2.length c2], .slice A m c] w fun e w'=>∃v,e= .returned v∧Li v (again l2 fs) w'∧Below w.heap.size w w':=by
  have U:=hd.n2;obtain⟨_,_,e,D,I⟩:=hl.reads;cases e;refine(kE.calls (fs.length+1) s A1 c1 l1 A2 c2 l2 A c fs (again l2 fs) w hd.r1 hd.h1 hd.r2 hd.h2 I D (zu (by omega) fs hs hi fs.length (fs.length+1) 0 [] (by omega) (by omega) (Nat.zero_le _))).mono ?_;rintro e w'⟨v,rfl,G,L⟩;exact⟨v,rfl,⟨_,G⟩,L⟩
end
theorem Df.flow{w:World}{A1 A2:Option Addr}{c1 c2:Nat}{l1:List S38}{l2:List S40}(h:Df w A1 c1 l1 A2 c2 l2){f:Int}(G:inF l2 f):∃ad,A2=some ad∧0≤wrap64 (f-1)∧wrap64 (f-1)<(l2.length:Int)∧
    w.cell? ⟨(ad.add ((wrap64 (f-1)).toNat*5)).block,(ad.add ((wrap64 (f-1)).toNat*5)).off+1,none⟩=some (.int .i64 (flw l2 f).f1)∧w.cell? ⟨(ad.add ((wrap64 (f-1)).toNat*5)).block,(ad.add ((wrap64 (f-1)).toNat*5)).off+2,none⟩=some (.int .i64 (flw l2 f).f2):=by
  obtain⟨h1,_⟩:=G;have U:=h.n2;have I:wrap64 (f-1)=f-1:=by unfold wrap64;omega
  rw[I];obtain⟨ad,e,_,D,L,_⟩:=zI h.r2 (f-1) (by omega) (by omega);exact⟨ad,e,by omega,by omega,D,L⟩
def dv(s:ByteArray)(A1:Option Addr)(c1:Nat)(l1:List S38)(A2:Option Addr)(c2:Nat)(l2:List S40):Value:= .agg #[.string s, .slice A1 l1.length c1, .slice A2 l2.length c2]
def MH:Rq→FuncId
  | .fr _ _=>91
  | .act _ _=>113
  | .blk _ _=>114
  | .lp _ _=>115
  | .sc _ _=>66
def MJ(B:Nat):Rq→Array Value
  | .fr f d=>#[.pointer (some ⟨B,0,none⟩), .int .i64 f, .int .i64 d]
  | .act n d=>#[.pointer (some ⟨B,0,none⟩), .int .i64 n, .int .i64 d]
  | .blk n d=>#[.pointer (some ⟨B,0,none⟩), .int .i64 n, .int .i64 d]
  | .lp n d=>#[.pointer (some ⟨B,0,none⟩), .int .i64 n, .int .i64 d]
  | .sc n d=>#[.pointer (some ⟨B,0,none⟩), .int .i64 n, .int .i64 d]
def MG(r:Int×Int×Wk):Rq→Value
  | .fr _ _=> .agg #[.int .i64 r.1, .int .i64 r.2.1]
  | .sc _ _=> .tuple #[]
  |_=> .int .i64 r.1
def Told(w1:World)(B M:Nat)(d0 d1 d2:Value)(l1:List S38)(l2:List S40)(k:Nat):Prop:=
  ∀(D:Rq) (W:Wk) (r:Int×Int×Wk) (wc:World),Wt w1 B M d0 d1 d2 W wc→wk l1 l2 k D W=some r→
    Calls Tryz.prog (MH D) (MJ B D) wc fun e w'=>e= .returned (MG r D)∧Wt w1 B M d0 d1 d2 r.2.2 w'∧Kp wc w'
theorem Wt.far{w1 wc:World}{B M:Nat}{d0 d1 d2:Value}{W:Wk}(h:Wt w1 B M d0 d1 d2 W wc){g t:Nat}{cs:Array Value}(D:wc.heap[g]?=some (.cells cs t (0,0)))(h1:t≠97)(h2:t≠102)(U:t≠4)(hg:w1.heap.size≤g)(i:Nat)(u:Value):
    Wt w1 B M d0 d1 d2 W (wc.setCell ⟨g,i,none⟩ u):=by
  obtain⟨vl,I,Y,G,L,X⟩:=h;refine⟨vl,⟨iw I.out (p:=⟨g,i,none⟩) (wD I.out D (Ne.symm h1)) u⟩,⟨Kd.wL Y.out D (fun q Z=>?_) i u⟩,⟨iw G.out (p:=⟨g,i,none⟩) (wD G.out D (Ne.symm U)) u⟩,L,⟨kr X.out hg⟩⟩;have e:q=102:=by simpa[show wR.E=[]from rfl]using Z
  subst e;exact Ne.symm h2
theorem Kp.new{w w':World}(h:Kp w w'){g:Nat}(G:w.heap.size≤g)(i:Nat)(u:Value):Kp w (w'.setCell ⟨g,i,none⟩ u):=fun k cells q e h1 h2 D=>
  iw (h k cells q e h1 h2 D) (p:=⟨g,i,none⟩) (by have:=rX e;show k≠g;omega) u
def Wz(w1 w0:World)(B M:Nat)(d0 d1 d2:Value)(W:Wk)(wc:World):Prop:=Wt w1 B M d0 d1 d2 W wc∧Kp w0 wc
theorem Wz.below{w1 w0 wc w':World}{B M:Nat}{d0 d1 d2:Value}{W:Wk}(h:Wz w1 w0 B M d0 d1 d2 W wc)(D:Below wc.heap.size wc w'):Wz w1 w0 B M d0 d1 d2 W w':=⟨h.1.below D,h.2.trans (Kp.below D)⟩
theorem Wz.drew{w1 w0 wc:World}{B M:Nat}{d0 d1 d2:Value}{W:Wk}(h:Wz w1 w0 B M d0 d1 d2 W wc):Wz w1 w0 B M d0 d1 d2 W wc.drew:=h.below (eZ (Below.refl _ _))
theorem Wz.conj{w1 w0 wc:World}{B M:Nat}{d0 d1 d2:Value}{W:Wk}(h:Wz w1 w0 B M d0 d1 d2 W wc):wc.cell? ⟨B,0,none⟩=some d0∧wc.cell? ⟨B,1,none⟩=some d1∧wc.cell? ⟨B,2,none⟩=some d2∧Wz w1 w0 B M d0 d1 d2 W wc:=
  ⟨h.1.cells.1.1,h.1.cells.1.2.1,h.1.cells.1.2.2,h⟩
theorem Wz.old{w1 w0 wc:World}{B M:Nat}{d0 d1 d2:Value}{W:Wk}(h:Wz w1 w0 B M d0 d1 d2 W wc):Below w1.heap.size w1 wc:=h.1.old
theorem xM{w1 wc wr:World}{B M:Nat}{d0 d1 d2:Value}{W:Wk}(U:Wt w1 B M d0 d1 d2 W wr)(X:Kp wc wr){g:Nat}{a b:Value}(L:wr.heap[g]?=some (.cells #[a,b] 126 (0,0)))(D:w1.heap.size≤g)(I:wc.heap.size≤g)(x y:Value):
    ((wr.setCell ⟨g,0,none⟩ x).setCell ⟨g,1,none⟩ y).heap[g]?=some (.cells #[x,y] 126 (0,0))∧Wt w1 B M d0 d1 d2 W ((wr.setCell ⟨g,0,none⟩ x).setCell ⟨g,1,none⟩ y)∧Kp wc ((wr.setCell ⟨g,0,none⟩ x).setCell ⟨g,1,none⟩ y):=by
  have G:(wr.setCell ⟨g,0,none⟩ x).heap[g]?=some (.cells #[x,b] 126 (0,0)):=eY L 0 _ rfl;exact⟨eY G 1 _ rfl,(U.far L (by decide) (by decide) (by decide) D 0 x).far G (by decide) (by decide) (by decide) D 1 y,(X.new I 0 x).new I 1 y⟩
theorem Told.act{w1:World}{B M:Nat}{d0 d1 d2:Value}{l1:List S38}{l2:List S40}{k:Nat}(h:Told w1 B M d0 d1 d2 l1 l2 k){n d:Int}{W:Wk}{r:Int×Int×Wk}{wc:World}(D:Wt w1 B M d0 d1 d2 W wc)(G:wk l1 l2 k (Rq.act n d) W=some r):
    Calls Tryz.prog 113 #[.pointer (some ⟨B,0,none⟩), .int .i64 n, .int .i64 d] wc fun e w'=>e= .returned (.int .i64 r.1)∧Wt w1 B M d0 d1 d2 r.2.2 w'∧Kp wc w':=h (Rq.act n d) W r wc D G
theorem Told.blk{w1:World}{B M:Nat}{d0 d1 d2:Value}{l1:List S38}{l2:List S40}{k:Nat}(h:Told w1 B M d0 d1 d2 l1 l2 k){n d:Int}{W:Wk}{r:Int×Int×Wk}{wc:World}(D:Wt w1 B M d0 d1 d2 W wc)(G:wk l1 l2 k (Rq.blk n d) W=some r):
    Calls Tryz.prog 114 #[.pointer (some ⟨B,0,none⟩), .int .i64 n, .int .i64 d] wc fun e w'=>e= .returned (.int .i64 r.1)∧Wt w1 B M d0 d1 d2 r.2.2 w'∧Kp wc w':=h (Rq.blk n d) W r wc D G
theorem Told.lp{w1:World}{B M:Nat}{d0 d1 d2:Value}{l1:List S38}{l2:List S40}{k:Nat}(h:Told w1 B M d0 d1 d2 l1 l2 k){n d:Int}{W:Wk}{r:Int×Int×Wk}{wc:World}(D:Wt w1 B M d0 d1 d2 W wc)(G:wk l1 l2 k (Rq.lp n d) W=some r):
    Calls Tryz.prog 115 #[.pointer (some ⟨B,0,none⟩), .int .i64 n, .int .i64 d] wc fun e w'=>e= .returned (.int .i64 r.1)∧Wt w1 B M d0 d1 d2 r.2.2 w'∧Kp wc w':=h (Rq.lp n d) W r wc D G
theorem Told.fr{w1:World}{B M:Nat}{d0 d1 d2:Value}{l1:List S38}{l2:List S40}{k:Nat}(h:Told w1 B M d0 d1 d2 l1 l2 k){n d:Int}{W:Wk}{r:Int×Int×Wk}{wc:World}(D:Wt w1 B M d0 d1 d2 W wc)(G:wk l1 l2 k (Rq.fr n d) W=some r):
    Calls Tryz.prog 91 #[.pointer (some ⟨B,0,none⟩), .int .i64 n, .int .i64 d] wc fun e w'=>e= .returned (.agg #[.int .i64 r.1, .int .i64 r.2.1])∧Wt w1 B M d0 d1 d2 r.2.2 w'∧Kp wc w':=h (Rq.fr n d) W r wc D G
theorem Told.sc{w1:World}{B M:Nat}{d0 d1 d2:Value}{l1:List S38}{l2:List S40}{k:Nat}(h:Told w1 B M d0 d1 d2 l1 l2 k){n d:Int}{W:Wk}{r:Int×Int×Wk}{wc:World}(D:Wt w1 B M d0 d1 d2 W wc)(G:wk l1 l2 k (Rq.sc n d) W=some r):
    Calls Tryz.prog 66 #[.pointer (some ⟨B,0,none⟩), .int .i64 n, .int .i64 d] wc fun e w'=>e= .returned (.tuple #[])∧Wt w1 B M d0 d1 d2 r.2.2 w'∧Kp wc w':=h (Rq.sc n d) W r wc D G
theorem Fp{α:Type}(p:α→Bool):∀(l:List α) (i:Nat) (f:Int),f∈ix p i l→(i:Int)+1≤f∧f≤(i:Int)+l.length
  |[],i,f,h=>by cases h
  |x::l,i,f,h=>by
    unfold ix at h
    have D:f∈ix p (i+1) l→(i:Int)+1≤f∧f≤(i:Int)+(x::l).length:=fun h=>by
      have:=Fp p l (i+1) f h
      simp only[List.length_cons]
      omega
    split at h
    · rcases List.mem_cons.mp h with rfl|h
      · simp only[List.length_cons];omega
      · exact D h
    · exact D h
theorem zm{l2:List S40}{n:Int}:∀f∈outs l2 n,inF l2 f:=fun f h=>by have:=Fp _ _ _ _ h;exact⟨by omega,by omega⟩
theorem Al{l2:List S40}{n:Int}:∀f∈ins l2 n,inF l2 f:=fun f h=>by have:=Fp _ _ _ _ h;exact⟨by omega,by omega⟩
theorem xS{α:Type}(p:α→Bool):∀(l:List α) (i:Nat),(ix p i l).length≤l.length
  |[],i=>Nat.le_refl _
  |x::l,i=>by
    unfold ix
    have:=xS p l (i+1)
    split<;>simp only[List.length_cons]<;>omega
theorem Fb {w1:World} {B M:Nat} {s:ByteArray} {A1 A2:Option Addr} {c1 c2:Nat} {l1:List S38} {l2:List S40} (hd:Df w1 A1 c1 l1 A2 c2 l2) {k:Nat}
    (ih:∀j,j<k→Told w1 B M (.string s) (.slice A1 l1.length c1) (.slice A2 l2.length c2) l1 l2 j) (f d:Int) {W:Wk} {r:Int×Int×Wk} {wc:World} (h:Wt w1 B M (.string s) (.slice A1 l1.length c1) (.slice A2 l2.length c2) W wc) (G:wk l1 l2 k (.fr f d) W=some r):
    Calls Tryz.prog 91 #[.pointer (some ⟨B,0,none⟩), .int .i64 f, .int .i64 d] wc fun e w'=>e= .returned (.agg #[.int .i64 r.1, .int .i64 r.2.1])∧Wt w1 B M (.string s) (.slice A1 l1.length c1) (.slice A2 l2.length c2) r.2.2 w'∧Kp wc w':=by
  have HD:=mk0 hd;have HI:=mk0 ih;have HR:=mk0 G;have ao:Below wc.heap.size wc (wc.alloc (.cells #[.int .i64 0, .int .i64 0] 126)):=eX (Below.refl _ _) _;have HT:=mk0 (h.below ao);have HK:=mk0 (Kp.below ao);have HS:=mk0 (qF wc (.cells #[.int .i64 0, .int .i64 0] 126));have HO:=mk0 (kN h.old);clear hd ih G h ao;go_enter Tryz.func91,Tryz.ntmps91;go_wp2;go_loopg [1] (k) (fun kq v1 wr=>∃(f:Int) (W:Wk),v1= .int .i64 f∧eD (wk l1 l2 kq (.fr f d) W=some r)∧eD (kq≤k)∧eD (Wt w1 B M (.string s) (.slice A1 l1.length c1) (.slice A2 l2.length c2) W wr)∧eD (Kp wc wr)∧eD (wr.heap[wc.heap.size]?=some (.cells #[.int .i64 0, .int .i64 0] 126 (0,0))));case atStart=>exact⟨f,W,rfl,HR,⟨Nat.le_refl _⟩,HT,HK,HS⟩
  case round=>
    clear HR HT HK HS;obtain⟨f,W,rfl,HR,aJ,HT,HK,HS⟩:=hrel;obtain⟨j,hj⟩:∃j,gk=j+1:=by
      cases gk with
      |zero=>have:=HR.out;cases this
      |succ m=>exact⟨m,rfl⟩
    have G:=HR.out;rw[hj]at G;unfold wk at G;(have aE:j<k:=by have:=aJ.out;omega);have HJ:=mk0 aE;have HG:=mk0 hj;clear hj aE HR;obtain⟨⟨q0,q1,q2⟩,q5,f5⟩:=HT.out.cells;by_cases he:W.e≠0
    · rw[if_pos he]at G
      cases G;have eb:(W.e==0)=false:=beq_eq_false_iff_ne.mpr he;have s0:wr.cell? ⟨wc.heap.size,0,none⟩=some (.int .i64 0):=(iF HS.out 0).trans rfl;have s1:wr.cell? ⟨wc.heap.size,1,none⟩=some (.int .i64 0):=(iF HS.out 1).trans rfl;have t0:=iP HS.out 0;have t1:=iP HS.out 1;clear he;go_wp2;obtain⟨z1,z2,z3⟩:=xM HT.out HK.out HS.out HO.out (Nat.le_refl _) (.int .i64 0) (.int .i64 0);exact bodyPost_ret (results_cell_row rfl _ _ wc.heap.size 126 _ (0,0) _ rfl z1 Tryz.underlying126 rfl (by kernel_rfl)) rfl ⟨rfl,z2,z3⟩
    · rw[if_neg he]at G
      (have aq:W.e=0:=by simpa using he);have eb:(W.e==0)=true:=beq_iff_eq.mpr aq
      split at G
      case isFalse=>cases G
      rename_i hf
      obtain⟨ad,rfl,g0,g1,g2,_⟩:=(HD.out.below HT.out.old).flow hf;have HE:=mk0 aq;have HH:=mk0 G;generalize hn:(flw l2 f).f1=n at*;have HN:=mk0 hn;clear he aq G hf hn;go_wp2;have hz:Wz w1 wr B M (.string s) (.slice A1 l1.length c1) (.slice (some ad) l2.length c2) W wr:=⟨HT.out,Kp.refl _⟩
      go_region_held3 (fun W'=>W'.cell? ⟨B,0,none⟩=some (.string s)∧W'.cell? ⟨B,1,none⟩=some (.slice A1 l1.length c1)∧W'.cell? ⟨B,2,none⟩=some (.slice (some ad) l2.length c2)∧Wz w1 wr B M (.string s) (.slice A1 l1.length c1) (.slice (some ad) l2.length c2) W W')
        (first|exact Wz.conj (by with_reducible assumption)|exact Wz.conj (Wz.drew (by with_reducible assumption)))
        (first|(go_at_call 51;(with_reducible refine(uJ (HD.out.below (Wz.old (by first|(with_reducible assumption)|exact Wz.drew (by with_reducible assumption)))) s n).mono ?_);rintro e w2⟨_,rfl,aD,aA⟩;have aH:=Wz.below (by first|(with_reducible assumption)|exact Wz.drew (by with_reducible assumption)) aA;have az:=mk0 aD;clear aD aA)|(go_at_call 13;(with_reducible refine(qK (HD.out.below (Wz.old (by first|(with_reducible assumption)|exact Wz.drew (by with_reducible assumption)))) s n).mono ?_);rintro e w3⟨_,rfl,ax,ar⟩;have aF:=Wz.below (by first|(with_reducible assumption)|exact Wz.drew (by with_reducible assumption)) ar;have aB:=mk0 ax;have an:=mk0 (az.out.kept (Kp.below ar));clear ax ar)|(go_at_call 48;(with_reducible refine(rA (HD.out.below (Wz.old (by first|(with_reducible assumption)|exact Wz.drew (by with_reducible assumption)))) s n).mono ?_);rintro e w4⟨rfl,al⟩;have ai:=Wz.below (by first|(with_reducible assumption)|exact Wz.drew (by with_reducible assumption)) al;have aj:=mk0 (an.out.kept (Kp.below al));have ak:=mk0 (aB.out.kept (Kp.below al));clear al))
      clear hz aH aF q0 q1 q2 q5 f5 g0 g1 g2 eb az aB an;obtain⟨_,_,rfl,_,_⟩:=aj.out.reads;obtain⟨_,_,rfl,_,_⟩:=ak.out.reads;have L:=mk0 (ai.2 _ _ _ HS.out (by decide) (by decide) (by decide));have aa:=mk0 ai.1;have HK4:=mk0 (HK.out.trans ai.2);have am:=mk0 (HD.out.below ai.old);have s0:w4.cell? ⟨wc.heap.size,0,none⟩=some (.int .i64 0):=(iF L.out 0).trans rfl;have s1:w4.cell? ⟨wc.heap.size,1,none⟩=some (.int .i64 0):=(iF L.out 1).trans rfl;have t0:=iP L.out 0;have t1:=iP L.out 1;obtain⟨⟨q0,q1,q2⟩,_,_⟩:=aa.out.cells;(have aC:eD ((outs l2 n).length≤1000000):=⟨by have:=xS (fun y:S40=>y.f0==n) l2 0;have:=HD.out.n2;unfold outs;omega⟩);(have aw:eD ((ins l2 n).length≤1000000):=⟨by have:=xS (fun y:S40=>y.f1==n) l2 0;have:=HD.out.n2;unfold ins;omega⟩);have ay:=mk0 aj.out;clear ai HT HK HS aj;generalize ab:iC l1 n=kd at*;have G:=HH.out;by_cases k2:kd=2
      · rw[if_pos k2]at G
        cases G;have kb:(kd==2)=true:=beq_iff_eq.mpr k2;clear k2 ab;go_wp2;obtain⟨z1,z2,z3⟩:=xM aa.out HK4.out L.out HO.out (Nat.le_refl _) (.int .i64 1) (.int .i64 n);exact bodyPost_ret (results_cell_row rfl _ _ wc.heap.size 126 _ (0,0) _ rfl z1 Tryz.underlying126 rfl (by kernel_rfl)) rfl ⟨rfl,z2,z3⟩
      have aK:(kd==2)=false:=beq_eq_false_iff_ne.mpr k2;rw[if_neg k2]at G;clear k2;by_cases Z:kd=3∨kd=4∨kd=7
      · rw[if_pos Z]at G
        obtain⟨q,hq,G⟩:=Option.bind_eq_some_iff.mp G;have HC:=mk0 (HI.out j HJ.out|>.act aa.out hq);have HR:=mk0 G;clear hq G ab HH;have kk:((kd==3)=true)∨((kd==3)=false∧(kd==4)=true)∨((kd==3)=false∧(kd==4)=false∧(kd==7)=true):=by
          rcases Z with rfl|rfl|rfl
          · exact Or.inl rfl
          · exact Or.inr (Or.inl ⟨rfl,rfl⟩)
          · exact Or.inr (Or.inr ⟨rfl,rfl,rfl⟩)
        clear Z;rcases kk with b3|⟨b3,b4⟩|⟨b3,b4,b7⟩
        all_goals
          go_wp2_with(go_at_call 113;(with_reducible refine HC.out.mono ?_);rintro e w5⟨rfl,X,U⟩;have ah:=mk0 X;have HK5:=mk0 U;clear X U)
          have af:=Kp.refl w4
          have ag:=L.out
          go_roundg j
          case measure=>have:=HG.out;omega
          case rel=>exact⟨q.1,q.2.2,rfl,HR,⟨Nat.le_of_lt HJ.out⟩,ah,⟨HK4.out.trans (af.trans HK5.out)⟩,⟨HK5.out _ _ _ ag (by decide) (by decide) (by decide)⟩⟩
      rw[if_neg Z]at G;have k3:(kd==3)=false:=beq_eq_false_iff_ne.mpr (fun h=>Z (Or.inl h));have k4:(kd==4)=false:=beq_eq_false_iff_ne.mpr (fun h=>Z (Or.inr (Or.inl h)));have k7:(kd==7)=false:=beq_eq_false_iff_ne.mpr (fun h=>Z (Or.inr (Or.inr h)));clear Z;have HC:=mk0 (fun(w:World) (hT:Wt w1 B M (.string s) (.slice A1 l1.length c1) (.slice (some ad) l2.length c2) W w) (q:Int×Int×Wk)=>And.intro (fun(h:wk l1 l2 j (.blk n d) W=some q)=>(HI.out j HJ.out).blk hT h) (fun(h:wk l1 l2 j (.lp n d) W=some q)=>(HI.out j HJ.out).lp hT h));by_cases kl:2≤(outs l2 n).length
      · rw[if_pos kl]at G
        have aG:decide ((2:Int)≤((outs l2 n).length:Int))=true:=decide_eq_true (by omega);have aI:decide (2≤(outs l2 n).length)=true:=decide_eq_true kl;clear kl;by_cases k5:kd=5
        · have av:(kd==5)=true:=beq_iff_eq.mpr k5
          by_cases Z:0<(again l2 (outs l2 n)).length
          · rw[if_pos ⟨k5,Z⟩]at G
            cases G;have au:decide ((0:Int)<((again l2 (outs l2 n)).length:Int))=true:=decide_eq_true (by omega);have ap:decide (0<(again l2 (outs l2 n)).length)=true:=decide_eq_true Z;clear k5 Z ab HH;go_wp2_with(go_at_call 70;(with_reducible refine(rO am.out s ak.out aC.out zm).mono ?_);rintro e w6⟨v6,rfl,Y,I⟩;obtain⟨A6,c6,rfl,_,_⟩:=Y.reads;have ae:=mk0 (aa.out.below I);have HK6:=mk0 (Kp.below I);have D:=mk0 (iW L.out I);have s0:w6.cell? ⟨wc.heap.size,0,none⟩=some (.int .i64 0):=(iF D.out 0).trans rfl;have s1:w6.cell? ⟨wc.heap.size,1,none⟩=some (.int .i64 0):=(iF D.out 1).trans rfl;have t0:=iP D.out 0;have t1:=iP D.out 1;clear Y I);obtain⟨z1,z2,z3⟩:=xM ae.out (HK4.out.trans HK6.out) D.out HO.out (Nat.le_refl _) (.int .i64 3) (.int .i64 n);exact bodyPost_ret (results_cell_row rfl _ _ wc.heap.size 126 _ (0,0) _ rfl z1 Tryz.underlying126 rfl (by kernel_rfl)) rfl ⟨rfl,z2,z3⟩
          · rw[if_neg (fun h=>Z h.2)]at G
            obtain⟨q,hq,G⟩:=Option.bind_eq_some_iff.mp G;have HQ:=mk0 hq;have HR:=mk0 G;have au:decide ((0:Int)<((again l2 (outs l2 n)).length:Int))=false:=decide_eq_false (by omega);have ap:decide (0<(again l2 (outs l2 n)).length)=false:=decide_eq_false Z;clear k5 Z ab HH hq G;go_wp2_with(first|(go_at_call 70;(with_reducible refine(rO am.out s ak.out aC.out zm).mono ?_);rintro e w6⟨v6,rfl,Y,I⟩;obtain⟨A6,c6,rfl,_,_⟩:=Y.reads;have ae:=mk0 (aa.out.below I);have HK6:=mk0 (Kp.below I);have D:=mk0 (iW L.out I);have s0:w6.cell? ⟨wc.heap.size,0,none⟩=some (.int .i64 0):=(iF D.out 0).trans rfl;have s1:w6.cell? ⟨wc.heap.size,1,none⟩=some (.int .i64 0):=(iF D.out 1).trans rfl;have t0:=iP D.out 0;have t1:=iP D.out 1;clear Y I)|(go_at_call 114;(with_reducible refine((HC.out _ ae.out q).1 HQ.out).mono ?_);rintro e w5⟨rfl,X,U⟩;have ah:=mk0 X;have HK5:=mk0 U;clear X U));have af:=HK6.out;have ag:=D.out;go_roundg j;(case measure=>have:=HG.out;omega);case rel=>exact⟨q.1,q.2.2,rfl,HR,⟨Nat.le_of_lt HJ.out⟩,ah,⟨HK4.out.trans (af.trans HK5.out)⟩,⟨HK5.out _ _ _ ag (by decide) (by decide) (by decide)⟩⟩
        · have av:(kd==5)=false:=beq_eq_false_iff_ne.mpr k5
          rw[if_neg (fun h=>k5 h.1)]at G;obtain⟨q,hq,G⟩:=Option.bind_eq_some_iff.mp G;have HQ:=mk0 hq;have HR:=mk0 G;clear k5 ab HH hq G;go_wp2_with(go_at_call 114;(with_reducible refine((HC.out _ aa.out q).1 HQ.out).mono ?_);rintro e w5⟨rfl,X,U⟩;have ah:=mk0 X;have HK5:=mk0 U;clear X U);have af:=Kp.refl w4;have ag:=L.out;go_roundg j;(case measure=>have:=HG.out;omega);case rel=>exact⟨q.1,q.2.2,rfl,HR,⟨Nat.le_of_lt HJ.out⟩,ah,⟨HK4.out.trans (af.trans HK5.out)⟩,⟨HK5.out _ _ _ ag (by decide) (by decide) (by decide)⟩⟩
      · rw[if_neg kl]at G
        have aG:decide ((2:Int)≤((outs l2 n).length:Int))=false:=decide_eq_false (by omega);have aI:decide (2≤(outs l2 n).length)=false:=decide_eq_false kl;clear kl;by_cases k5:kd=5
        · have av:(kd==5)=true:=beq_iff_eq.mpr k5
          by_cases Z:0<(again l2 (ins l2 n)).length
          · rw[if_pos ⟨k5,Z⟩]at G
            obtain⟨q,hq,G⟩:=Option.bind_eq_some_iff.mp G;have HQ:=mk0 hq;have HR:=mk0 G;have au:decide ((0:Int)<((again l2 (ins l2 n)).length:Int))=true:=decide_eq_true (by omega);have ap:decide (0<(again l2 (ins l2 n)).length)=true:=decide_eq_true Z;clear k5 Z ab HH hq G;go_wp2_with(first|(go_at_call 70;(with_reducible refine(rO am.out s ay.out aw.out Al).mono ?_);rintro e w6⟨v6,rfl,Y,I⟩;obtain⟨A6,c6,rfl,_,_⟩:=Y.reads;have ae:=mk0 (aa.out.below I);have HK6:=mk0 (Kp.below I);have D:=mk0 (iW L.out I);have s0:w6.cell? ⟨wc.heap.size,0,none⟩=some (.int .i64 0):=(iF D.out 0).trans rfl;have s1:w6.cell? ⟨wc.heap.size,1,none⟩=some (.int .i64 0):=(iF D.out 1).trans rfl;have t0:=iP D.out 0;have t1:=iP D.out 1;clear Y I)|(go_at_call 115;(with_reducible refine((HC.out _ ae.out q).2 HQ.out).mono ?_);rintro e w5⟨rfl,X,U⟩;have ah:=mk0 X;have HK5:=mk0 U;clear X U));have af:=HK6.out;have ag:=D.out;go_roundg j;(case measure=>have:=HG.out;omega);case rel=>exact⟨q.1,q.2.2,rfl,HR,⟨Nat.le_of_lt HJ.out⟩,ah,⟨HK4.out.trans (af.trans HK5.out)⟩,⟨HK5.out _ _ _ ag (by decide) (by decide) (by decide)⟩⟩
          · rw[if_neg (fun h=>Z h.2)]at G
            cases G;have au:decide ((0:Int)<((again l2 (ins l2 n)).length:Int))=false:=decide_eq_false (by omega);have ap:decide (0<(again l2 (ins l2 n)).length)=false:=decide_eq_false Z;clear k5 Z ab HH;go_wp2_with(go_at_call 70;(with_reducible refine(rO am.out s ay.out aw.out Al).mono ?_);rintro e w6⟨v6,rfl,Y,I⟩;obtain⟨A6,c6,rfl,_,_⟩:=Y.reads;have ae:=mk0 (aa.out.below I);have HK6:=mk0 (Kp.below I);have D:=mk0 (iW L.out I);have s0:w6.cell? ⟨wc.heap.size,0,none⟩=some (.int .i64 0):=(iF D.out 0).trans rfl;have s1:w6.cell? ⟨wc.heap.size,1,none⟩=some (.int .i64 0):=(iF D.out 1).trans rfl;have t0:=iP D.out 0;have t1:=iP D.out 1;clear Y I);obtain⟨z1,z2,z3⟩:=xM ae.out (HK4.out.trans HK6.out) D.out HO.out (Nat.le_refl _) (.int .i64 2) (.int .i64 n);exact bodyPost_ret (results_cell_row rfl _ _ wc.heap.size 126 _ (0,0) _ rfl z1 Tryz.underlying126 rfl (by kernel_rfl)) rfl ⟨rfl,z2,z3⟩
        · have av:(kd==5)=false:=beq_eq_false_iff_ne.mpr k5
          rw[if_neg (fun h=>k5 h.1)]at G;cases G;clear k5 ab HH;go_wp2;obtain⟨z1,z2,z3⟩:=xM aa.out HK4.out L.out HO.out (Nat.le_refl _) (.int .i64 2) (.int .i64 n);exact bodyPost_ret (results_cell_row rfl _ _ wc.heap.size 126 _ (0,0) _ rfl z1 Tryz.underlying126 rfl (by kernel_rfl)) rfl ⟨rfl,z2,z3⟩
end Go.Proofs.Ng
