/- Facts carried over new blocks, draws and written cells. -/
import Derived.Below
import Derived.Deep.Draws
import Derived.Deep.AppendLies
import Derived.Maps.AppendAt
import Derived.OwnWalk
import Derived.Laws.BytesArg
import Derived.Laws.MakeOwn
import Derived.Laws.OwnMore
import Derived.Deep.OwnRows
import Derived.Tactics
import Derived.Lib.ConvBytes
import Derived.Laws.Slices
import Derived.WalkKit
import Derived.KernelRfl
import Derived.RowKit3
import Derived.Deep.LoopGhost
import Derived.Deep.QuietTactic
import Derived.BigQuiet
import Derived.WideLaws
import Derived.Deep.DeepCutAuto
import Derived.Deep.CutBlock
import Derived.Deep.RegionHeld3
import Derived.Laws.Rows
import Derived.Lib.AppendStr
import Derived.ArgAppend
import Derived.Laws.IdiomCopy
import Derived.RowKit
import Derived.OrdersHeld
import Derived.Laws.BitsLemmas
import Derived.Laws.StructEq
set_option linter.unusedSimpArgs false
set_option linter.unusedVariables false
namespace Go.Proofs.PW
open RowKit
class eD(p:Prop):Prop where mk::(out:p)
structure qm(w w':World):Prop where mk::(out:∃n,w'=w.drewN n)
theorem qm.refl(w:World):qm w w:=⟨⟨0,rfl⟩⟩
theorem qm.step{w w':World}(h:qm w w')(n:Nat):qm w (w'.drewN n):=by
  obtain⟨m,rfl⟩:=h;exact⟨⟨m+n,World.drewN_drewN ..⟩⟩
theorem qm.grown{w w':World}(h:qm w w'):Grown w w':=by
  obtain⟨n,rfl⟩:=h
  induction n with
  |zero=>exact Grown.refl _
  |succ n ih=>rw[←World.drew_drewN];exact Grown.drew ih
theorem qm.below{w w':World}(h:qm w w'):Below w.heap.size w w':=by
  obtain⟨n,rfl⟩:=h
  induction n with
  |zero=>exact Below.refl _ _
  |succ n ih=>rw[←World.drew_drewN];exact ih.drew
def rd(xs:List Int)(i:Int):Int:=xs.getD i.toNat 0
def bt(s:ByteArray)(i:Int):Int:=if h:i.toNat<s.size then((s[i.toNat]'h).toNat:Int)else 0
theorem kY(s:ByteArray)(i:Int):∀h:i.toNat<s.size,((s[i.toNat]'h).toNat:Int)=bt s i:=fun h=>by simp[bt,h]
theorem eX{w W:World}(h:Below w.heap.size w W)(o:Obj):Below w.heap.size w (W.alloc o):=h.alloc h.size o
theorem xH{B:Nat}{w W:World}(h:Below B w W):Below B w W.drew:=⟨h.os,h.tape,h.output,h.size,h.block⟩
theorem eP{B:Nat}{w W:World}(h:Below B w W)(n:Nat):Below B w (W.drewN n):=⟨h.os,h.tape,h.output,h.size,h.block⟩
theorem xA{B:Nat}{w w1 D:World}(h:Below B w w1)(G:B≤w1.heap.size)(k:Below w1.heap.size w1 D):Below B w D:=
  h.trans ⟨k.os,k.tape,k.output,k.size,fun i hi=>k.block i (Nat.lt_of_lt_of_le hi G)⟩
theorem Bc{w w1:World}(h:Below w.heap.size w w1)(row:Option Nat):w.grownBy w1 row:=⟨h.os,h.tape,h.output,h.size,fun i hi _=>h.block i hi⟩
theorem wS{w w1:World}(h:Below w.heap.size w w1){a:Addr}{v:Value}(D:w.cell? a=some v):w1.cell? a=some v:=(h.cell (World.block_lt_of_cell? w a D)).trans D
theorem add_plain(g j:Nat):(⟨g,0,none⟩:Addr).add j=⟨g,j,none⟩:=by unfold Addr.add;split<;>simp_all
def sw(w:World)(k:IntKind)(A:Option Addr)(n:Nat)(xs:List Int):Prop:=
  xs.length=n∧n≤9223372036854775807∧(0<n→∃ad,A=some ad∧∀j,j<n→w.cell? (ad.add j)=some (.int k (xs.getD j 0)))
theorem sw.at_{w:World}{k:IntKind}{A:Option Addr}{n:Nat}{xs:List Int}(h:sw w k A n xs)(i:Int)(G:0≤i)(h1:i<n):∃ad,A=some ad∧w.cell? (ad.add i.toNat)=some (.int k (rd xs i)):=by
  obtain⟨ad,e,D⟩:=h.2.2 (by omega);exact⟨ad,e,D _ (by omega)⟩
theorem sw.below{w w1:World}{k:IntKind}{A:Option Addr}{n:Nat}{xs:List Int}(h:sw w k A n xs)(L:Below w.heap.size w w1):sw w1 k A n xs:=
  ⟨h.1,h.2.1,fun I=>by
    obtain⟨ad,e,D⟩:=h.2.2 I
    exact⟨ad,e,fun j G=>wS L (D j G)⟩⟩
theorem JQ(W:World)(base:Nat)(e:TypeId)(size:Nat):W.ownsRow base e size (.slice none 0 0) 0 []:=⟨by simp, .inl ⟨rfl,rfl⟩⟩
theorem xZ{w:World}{base:Nat}{e:TypeId}{size n:Nat}{v:Value}{xs:List Value}(h:w.ownsRow base e size v n xs)(k:Nat)(hk:v.ownBlock=some k):base≤k:=by
  rcases h.2 with⟨rfl,_⟩|⟨g,_,_,rfl,_,_⟩
  · simp[Value.ownBlock]at hk
  · have:g=k:=by simpa[Value.ownBlock]using hk
    omega
theorem Ib{w:World}{base:Nat}{e:TypeId}{size n:Nat}{v:Value}{xs:List Value}(h:w.ownsRow base e size v n xs)(k:Nat)(hk:v.ownBlock=some k):k<w.heap.size:=by
  rcases h.2 with⟨rfl,_⟩|⟨g,_,_,rfl,_,D,_⟩
  · simp[Value.ownBlock]at hk
  · have:g=k:=by simpa[Value.ownBlock]using hk
    subst this;exact(Array.getElem?_eq_some_iff.1 D).1
theorem Cu{w w1:World}{base:Nat}{e:TypeId}{size n:Nat}{v:Value}{xs:List Value}(h:w.ownsRow base e size v n xs)(D:Below w.heap.size w w1):w1.ownsRow base e size v n xs:=
  h.kept (Bc D none) (by cases v.ownBlock<;>simp)
theorem FZ{w w1:World}{base:Nat}{e:TypeId}{size n:Nat}{v:Value}{xs:List Value}(h:w.ownsRow base e size v n xs){row:Option Nat}(G:w.grownBy w1 row)(D:v.ownBlock=none∨v.ownBlock≠row):w1.ownsRow base e size v n xs:=h.kept G D
theorem GN{w:World}{base n:Nat}{e:TypeId}{size:Nat}{v:Value}{xs:List Value}(h:w.ownsRow base e size v n xs):∃A c,v= .slice A n c:=by
  rcases h.2 with⟨rfl,rfl⟩|⟨g,cap,_,rfl,_⟩
  · exact⟨none,0,rfl⟩
  · exact⟨_,cap,rfl⟩
section
variable {P:Program} {ops:Array Oper} {rest:List Oper} {o:Oper} {a:Act} {Q:Exit→Act→World→Prop}
end
section
variable {P:Program}
end
section
variable {P:Program} {ops:Array Oper} {rest:List Oper} {o:Oper} {a:Act} {Q:Exit→Act→World→Prop}
end
theorem sw.HV{w:World}{k:IntKind}{A:Option Addr}{n:Nat}{xs:List Int}(h:sw w k A n xs)(i:Nat)(hi:i≤n):sw w k A i (xs.take i):=by
  refine⟨by rw[List.length_take,h.1];omega,by have:=h.2.1;omega,fun I=>?_⟩;obtain⟨ad,e,D⟩:=h.2.2 (by omega);refine⟨ad,e,fun j G=>?_⟩;rw[D j (by omega)];simp[List.getD_eq_getElem?_getD,G]
def LeO{α:Type}(a b:Option α):Prop:=∀r,a=some r→b=some r
theorem LeO.refl{α:Type}(a:Option α):LeO a a:=fun _ h=>h
theorem LeO.none{α:Type}(b:Option α):LeO Option.none b:=fun _ h=>by cases h
theorem LeO.trans{α:Type}{a b c:Option α}(h:LeO a b)(k:LeO b c):LeO a c:=fun r D=>k r (h r D)
theorem LeO.ite{α:Type}{c:Prop}[Decidable c]{a a' b b':Option α}(h:LeO a a')(k:LeO b b'):LeO (if c then a else b) (if c then a' else b'):=by
  split
  · exact h
  · exact k
theorem LeO.bind{α β:Type}{a a':Option α}{f f':α→Option β}(h:LeO a a')(k:∀x,LeO (f x) (f' x)):LeO (a.bind f) (a'.bind f'):=by
  intro r I;obtain⟨x,G,D⟩:=Option.bind_eq_some_iff.1 I;exact Option.bind_eq_some_iff.2 ⟨x,h x G,k x r D⟩
theorem LeO.map{α β:Type}{a a':Option α}(f:α→β)(h:LeO a a'):LeO (a.map f) (a'.map f):=by
  intro r I;obtain⟨x,G,D⟩:=Option.map_eq_some_iff.1 I;exact Option.map_eq_some_iff.2 ⟨x,h x G,D⟩
theorem wJ{α:Type}{g:Nat→Option α}(h:∀k,LeO (g k) (g (k+1)))(k:Nat):∀j,LeO (g k) (g (k+j))
  |0=>LeO.refl _
  |j+1=>(wJ h k j).trans (h (k+j))
theorem xk{α:Type}{g:Nat→Option α}(h:∀k,LeO (g k) (g (k+1))){k D:Nat}(hk:k≤D){r:α}(G:g k=some r):g D=some r:=by
  have:=wJ h k (D-k) r G;rwa[Nat.add_sub_cancel' hk]at this
theorem together{α β:Type}{g:Nat→Option α}{f:Nat→Option β}(L:∀k,LeO (g k) (g (k+1)))(G:∀k,LeO (f k) (f (k+1))){r:α}{q:β}(h:∃k,g k=some r)(I:∃k,f k=some q):∃k,g k=some r∧f k=some q:=by
  obtain⟨k,hk⟩:=h;obtain⟨U,D⟩:=I;exact⟨max k U,xk L (Nat.le_max_left _ _) hk,xk G (Nat.le_max_right _ _) D⟩
def qC{α:Type}(R:α→List Value→Prop)(size:Nat)(ps:List α)(cs:List Value):Prop:=
  cs.length=ps.length*size∧∀j p,ps[j]?=some p→R p ((cs.drop (j*size)).take size)
theorem qC.none{α:Type}(R:α→List Value→Prop)(size:Nat):qC R size [] []:=⟨by simp,fun j p h=>by simp at h⟩
theorem qC.snoc{α:Type}{R:α→List Value→Prop}{size:Nat}{ps:List α}{cs c:List Value}{p:α}(h:qC R size ps cs)(U:R p c)(L:c.length=size):qC R size (ps++[p]) (cs++c):=by
  refine⟨by rw[List.length_append,h.1,L,List.length_append,List.length_singleton,Nat.add_mul,Nat.one_mul],fun j q D=>?_⟩;rcases Nat.lt_or_ge j ps.length with hj|hj
  · rw[List.getElem?_append_left hj]at D
    (have h1:j*size+size≤cs.length:=by rw[h.1,←Nat.succ_mul];exact Nat.mul_le_mul_right _ hj);have h2:=h.2 j q D;rw[List.drop_append_of_le_length (by omega),List.take_append_of_le_length (by rw[List.length_drop];omega)];exact h2
  · have I:j=ps.length:=by
      have:=(List.getElem?_eq_some_iff.1 D).1;rw[List.length_append,List.length_singleton]at this;omega
    subst I
    have G:p=q:=by simpa using D
    subst G
    rw[←h.1,List.drop_left,←L,List.take_length]
    exact U
theorem qC.zf{α:Type}{R R':α→List Value→Prop}{size:Nat}{ps:List α}{cs:List Value}(h:qC R size ps cs)(G:∀p c,R p c→R' p c):qC R' size ps cs:=⟨h.1,fun j p D=>G _ _ (h.2 j p D)⟩
def sV{α:Type}(R:α→List Value→Prop)(size:Nat)(w:World)(A:Option Addr)(n:Nat)(ps:List α):Prop:=
  ps.length=n∧n≤9223372036854775807∧(0<n→∃ad,A=some ad∧∀j p,ps[j]?=some p→∃c,c.length=size∧R p c∧∀i u,c[i]?=some u→w.cell? (ad.add (j*size+i))=some u)
theorem sV.MN{α:Type}{R:α→List Value→Prop}{size:Nat}{w:World}{A:Option Addr}{n:Nat}{ps:List α}(h:sV R size w A n ps)(d:α)(i:Int)(L:0≤i)(h1:i<n):
    ∃ad c,A=some ad∧c.length=size∧R (ps.getD i.toNat d) c∧∀j u,c[j]?=some u→w.cell? (ad.add (i.toNat*size+j))=some u:=by
  obtain⟨ad,e,G⟩:=h.2.2 (by omega);have hl:i.toNat<ps.length:=by have:=h.1;omega
  obtain⟨c,hs,I,D⟩:=G i.toNat _ (List.getElem?_eq_getElem hl);refine⟨ad,c,e,hs,?_,D⟩;rw[List.getD_eq_getElem?_getD,List.getElem?_eq_getElem hl];exact I
theorem sV.zf{α:Type}{R R':α→List Value→Prop}{size:Nat}{w w1:World}{A:Option Addr}{n:Nat}{ps:List α}(h:sV R size w A n ps)(X:Below w.heap.size w w1)(U:∀p c,R p c→R' p c):sV R' size w1 A n ps:=
  ⟨h.1,h.2.1,fun L=>by
    obtain⟨ad,e,G⟩:=h.2.2 L
    refine⟨ad,e,fun j p I=>?_⟩
    obtain⟨c,hs,Y,D⟩:=G j p I
    exact⟨c,hs,U _ _ Y,fun i u Z=>wS X (D i u Z)⟩⟩
theorem Bt{α:Type}{R:α→List Value→Prop}{w:World}{base n size:Nat}{e:TypeId}{v:Value}{ps:List α}{cs:List Value}(h:w.ownsRow base e size v n cs)(Y:qC R size ps cs)(I:ps.length=n):
    ∃A c,v= .slice A n c∧sV R size w A n ps:=by
  rcases Nat.eq_zero_or_pos n with h0|h0
  · rcases h.2 with⟨rfl,rfl⟩|⟨g,cap,L,rfl,_⟩
    · exact⟨none,0,rfl,I,by omega,fun U=>absurd U (by omega)⟩
    · exact⟨_,cap,rfl,I,by omega,fun U=>absurd U (by omega)⟩
  · obtain⟨g,cap,rfl,_,_⟩:=h.form h0
    have Z:n≤9223372036854775807:=by
      rcases h.2 with⟨_,h1⟩|⟨_,_,L,_,_,_,h1,h2,_⟩
      · omega
      · simp only[maxLen]at h2
        omega
    refine⟨_,cap,rfl,I,Z,fun _=>⟨_,rfl,fun j p X=>⟨(cs.drop (j*size)).take size,?_,Y.2 j p X,fun i u D=>?_⟩⟩⟩
    · have G:=(List.getElem?_eq_some_iff.1 X).1
      (have h1:j*size+size≤cs.length:=by rw[Y.1,←Nat.succ_mul];exact Nat.mul_le_mul_right _ G);rw[List.length_take,List.length_drop];omega
    · refine h.cells (g:=g) rfl _ u ?_
      rw[List.getElem?_take]at D
      split at D
      · rw[List.getElem?_drop]at D
        exact D
      · cases D
theorem sU(ad:Addr)(m j:Nat)(G:0<j):ad.add (m+j)=⟨(ad.add m).block,(ad.add m).off+j,none⟩:=by
  unfold Addr.add;by_cases D:m=0
  · subst D
    simp[Nat.ne_of_gt G]
  · simp[D,Nat.add_assoc]
section
variable {P:Program} {ops:Array Oper} {rest:List Oper} {o:Oper} {a:Act} {Q:Exit→Act→World→Prop}
theorem wF {w0 W:World} (base:Nat) (Z:o.guard=none) (s x:Operand) (t e:TypeId) (z:Value) (size D:Nat)
    (ho:o.op= .call {callee:= .builtin .append,args:=#[s,x],argTypes:=#[t,t]})
    (ht:P.underlying t=some (.slice e)) (L:(P.info? e).map (fun i=>(i.zero,i.size,i.bytes))=some (some z,size,D)) (hz:z.cells.size=size) (ag:0<size) (aa:0<D)
    (v:Value) (n:Nat) (xs ys:List Value) (hs:a.eval s=v) (hx:a.eval x= .slice (some ⟨W.heap.size,0,none⟩) 1 1) (ae:ys.length=size) (h1:∀u∈ys,u.oneCell'=true)
    (HO:W.ownsRow base e size v n xs) (HB:Below base w0 W) (I:base≤W.heap.size) (hl:(n+1)*D≤140737488355328)
    (h:∀v1 w1,w1.ownsRow base e size v1 (n+1) (xs++ys)→Below base w0 w1→W.grownBy w1 v.ownBlock→(v1.ownBlock=v.ownBlock∨∃b,v1.ownBlock=some b∧W.heap.size≤b)→wpList P ops Q rest (a.put o.dst v1) w1):
    wpList P ops Q (o::rest) a (W.alloc (.cells ys.toArray e)):=by
  obtain⟨i0,hi,X⟩:=Option.map_eq_some_iff.1 L;simp only[Prod.mk.injEq]at X;obtain⟨Y,af,ab⟩:=X;have ah:n+1≤140737488355328:=Nat.le_trans (Nat.le_mul_of_pos_right _ aa) hl
  refine wpList_append_own_at (W.alloc (.cells ys.toArray e)) Z s x t ho base e i0 z size D ht hi Y af ab hz ag v n xs hs (HO.alloc _) ⟨W.heap.size,0,none⟩ 1 1 ys hx (by rw[ae];simp)
    (by simpa using World.news_of_block (cs:=ys.toArray) (t:=e) (fr:=(0,0)) (heap_alloc_new W (.cells ys.toArray e))) h1 (by simp only[maxLen];omega) hl (by simp;omega) ?_
  intro v1 w1 U hg _ G;refine h v1 w1 U ((HB.alloc I _).grown hg (by simp;omega) (xZ HO)) (World.grownBy.trans (World.grownBy_alloc W _ _) hg) ?_;rcases G with G|G
  · exact .inl G
  · exact .inr ⟨_,G,by simp⟩
end
theorem own_ne{w:World}{base:Nat}{e t:TypeId}{size n g:Nat}{v:Value}{xs:List Value}{cs:Array Value}(h:w.ownsRow base e size v n xs)(U:w.heap[g]?=some (.cells cs t (0,0)))(G:e≠t):some g≠v.ownBlock:=by
  rcases h.2 with⟨rfl,_⟩|⟨I,_,_,rfl,_,D,_⟩
  · simp[Value.ownBlock]
  · intro L
    (have:g=I:=by simpa[Value.ownBlock]using L);subst this;rw[U]at D;injection D with D;injection D with _ ht;exact G ht.symm
theorem FT{w:World}{g:Nat}{t:TypeId}{cs:Array Value}(h:w.heap[g]?=some (.cells cs t (0,0)))(i:Nat)(u:Value):(w.setCell ⟨g,i,none⟩ u).heap[g]?=some (.cells (cs.setIfInBounds i u) t (0,0)):=by
  simp[World.setCell,Array.getElem?_modify,h]
theorem iw{w:World}{g:Nat}{t:TypeId}{cs:Array Value}(h:w.heap[g]?=some (.cells cs t (0,0))){p:Addr}(D:g≠p.block)(u:Value):(w.setCell p u).heap[g]?=some (.cells cs t (0,0)):=(Below.heap_setCell w p u g D).trans h
theorem rX{w:World}{g:Nat}{o:Obj}(h:w.heap[g]?=some o):g<w.heap.size:=(Array.getElem?_eq_some_iff.1 h).1
theorem iF{w:World}{g:Nat}{t:TypeId}{cs:Array Value}(h:w.heap[g]?=some (.cells cs t (0,0)))(i:Nat):w.cell? ⟨g,i,none⟩=cs[i]?:=cell_of_row w g i cs t (0,0) h
theorem iP{w:World}{g:Nat}{t:TypeId}{cs:Array Value}(h:w.heap[g]?=some (.cells cs t (0,0)))(i:Nat):w.frozen? ⟨g,i,none⟩=false:=by simp[World.frozen?,h]
theorem qD{w w1:World}{g:Nat}{o:Obj}{row:Option Nat}(h:w.heap[g]?=some o)(G:w.grownBy w1 row)(D:some g≠row):w1.heap[g]?=some o:=(G.block g (rX h) D).trans h
theorem wD{w:World}{g U:Nat}{t L:TypeId}{cs G:Array Value}(h:w.heap[g]?=some (.cells cs t (0,0)))(D:w.heap[U]?=some (.cells G L (0,0)))(I:t≠L):g≠U:=by
  rintro rfl;rw[h]at D;injection D with D;injection D with _ ht;exact I ht
def sK(w w':World)(g:Nat)(row:Option Nat):Prop:=w.heap.size≤w'.heap.size∧∀i,i<w.heap.size→i≠g→some i≠row→w'.heap[i]?=w.heap[i]?
theorem sK.refl(w:World)(g:Nat)(row:Option Nat):sK w w g row:=⟨Nat.le_refl _,fun _ _ _ _=>rfl⟩
theorem sK.of_below{w w1:World}(h:Below w.heap.size w w1)(g:Nat)(row:Option Nat):sK w w1 g row:=⟨h.size,fun i hi _ _=>h.block i hi⟩
theorem sK.trans{w w1 G:World}{g:Nat}{row D:Option Nat}(h:sK w w1 g row)(k:sK w1 G g D)(U:D=row∨∃b,D=some b∧w.heap.size≤b):sK w G g row:=
  ⟨Nat.le_trans h.1 k.1,fun i hi L I=>by
    refine(k.2 i (Nat.lt_of_lt_of_le hi h.1) L ?_).trans (h.2 i hi L I)
    rcases U with rfl|⟨b,rfl,hb⟩
    · exact I
    · intro e
      injection e with e;omega⟩
theorem sK.blk{w w1:World}{g D:Nat}{row:Option Nat}{o:Obj}(h:sK w w1 g row)(G:w.heap[D]?=some o)(L:D≠g)(I:some D≠row):w1.heap[D]?=some o:=(h.2 D (rX G) L I).trans G
theorem sK.own{w w1:World}{g:Nat}{row:Option Nat}{base:Nat}{e:TypeId}{size n:Nat}{v:Value}{xs:List Value}(h:sK w w1 g row)(G:w.ownsRow base e size v n xs)(I:v.ownBlock≠some g)(D:v.ownBlock=none∨v.ownBlock≠row):w1.ownsRow base e size v n xs:=by
  obtain⟨h1,h2⟩:=G;refine⟨h1,?_⟩;rcases h2 with h2|⟨b,cap,cur,rfl,hb,hh,r⟩
  · exact .inl h2
  · refine .inr ⟨b,cap,cur,rfl,hb,h.blk hh ?_ ?_,r⟩
    · intro e
      exact I (by rw[←e];rfl)
    · rcases D with D|D
      · simp[Value.ownBlock]at D
      · exact D
def Ev{α:Type}(g:Nat→Option α)(r:α):Prop:=∃K,∀k,K≤k→g k=some r
theorem Ev.of{α:Type}{g:Nat→Option α}{r:α}(D:∀k,LeO (g k) (g (k+1))){k:Nat}(h:g k=some r):Ev g r:=⟨k,fun _ hk=>xk D hk h⟩
theorem Ev.now{α:Type}(r:α):Ev (fun _=>some r) r:=⟨0,fun _ _=>rfl⟩
theorem Ev.rounds{α:Type}{g:Nat→Option α}{r:α}(h:Ev g r):∃k,g k=some r:=by
  obtain⟨K,h⟩:=h;exact⟨K,h K (Nat.le_refl _)⟩
theorem Ev.bind{α β:Type}{g:Nat→Option α}{f:Nat→α→Option β}{a:α}{r:β}(h:Ev g a)(k:Ev (fun n=>f n a) r):Ev (fun n=>(g n).bind (f n)) r:=by
  obtain⟨K,h⟩:=h;obtain⟨D,k⟩:=k;refine⟨max K D,fun n G=>?_⟩;have h1:=h n (by omega);have h2:=k n (by omega);simp only[h1,Option.bind_some];exact h2
theorem Ev.step{α:Type}{g f:Nat→Option α}{r:α}(h:∀k,g (k+1)=f k)(k:Ev f r):Ev g r:=by
  obtain⟨K,k⟩:=k;refine⟨K+1,fun n D=>?_⟩;obtain⟨m,rfl⟩:∃m,n=m+1:=⟨n-1,by omega⟩
  rw[h];exact k m (by omega)
theorem Ev.congr{α:Type}{g f:Nat→Option α}{r:α}(h:∀k,g k=f k)(k:Ev f r):Ev g r:=by
  obtain⟨K,k⟩:=k;exact⟨K,fun n D=>(h n).trans (k n D)⟩
section
variable {P:Program} {ops:Array Oper} {o:Oper} {a:Act} {Q:Exit→Act→World→Prop} {K:Act→World→Prop}
theorem yT {w0 W:World} (base:Nat) (hw:Region.wanted o (yielded ops a.tmps)=true) (s x:Operand) (t e:TypeId) (z:Value) (size D:Nat)
    (ho:o.op= .call {callee:= .builtin .append,args:=#[s,x],argTypes:=#[t,t]})
    (ht:P.underlying t=some (.slice e)) (L:(P.info? e).map (fun i=>(i.zero,i.size,i.bytes))=some (some z,size,D)) (hz:z.cells.size=size) (af:0<size) (Z:0<D)
    (v:Value) (n:Nat) (xs ys:List Value) (hs:a.eval s=v) (hx:a.eval x= .slice (some ⟨W.heap.size,0,none⟩) 1 1) (ab:ys.length=size) (h1:∀u∈ys,u.oneCell'=true)
    (HO:W.ownsRow base e size v n xs) (HB:Below base w0 W) (I:base≤W.heap.size) (hl:(n+1)*D≤140737488355328)
    (h:∀v1 w1,w1.ownsRow base e size v1 (n+1) (xs++ys)→Below base w0 w1→W.grownBy w1 v.ownBlock→(v1.ownBlock=v.ownBlock∨∃b,v1.ownBlock=some b∧W.heap.size≤b)→K (a.put o.dst v1) w1):
    if Region.wanted o (yielded ops a.tmps)=true then Oper.wp P o a (W.alloc (.cells ys.toArray e)) K Q else K (a.put o.dst undef) (W.alloc (.cells ys.toArray e)):=by
  obtain⟨i0,hi,X⟩:=Option.map_eq_some_iff.1 L;simp only[Prod.mk.injEq]at X;obtain⟨Y,ae,aa⟩:=X;have ag:n+1≤140737488355328:=Nat.le_trans (Nat.le_mul_of_pos_right _ Z) hl;rw[if_pos hw]
  obtain⟨v1,w1,hr,U,hg,_,G⟩:=run_append_own_at (P:=P) (W.alloc (.cells ys.toArray e)) base t o.type e i0 z size D ht hi Y ae aa hz af v n xs (HO.alloc _) ⟨W.heap.size,0,none⟩ 1 1 ys (by rw[ab];simp)
    (by simpa using World.news_of_block (cs:=ys.toArray) (t:=e) (fr:=(0,0)) (heap_alloc_new W (.cells ys.toArray e))) h1 (by simp only[maxLen];omega) hl (by simp;omega)
  unfold Oper.wp execOp;simp only[ho,resolve,invoke,builtin,Sem.run_bind,Sem.run_pure,Result.andThen_ok,List.map_toArray,List.map_cons,List.map_nil,hs,hx,hr];refine h v1 w1 U ((HB.alloc I _).grown hg (by simp;omega) (xZ HO)) (World.grownBy.trans (World.grownBy_alloc W _ _) hg) ?_;rcases G with G|G
  · exact .inl G
  · exact .inr ⟨_,G,by simp⟩
end
theorem EJ{w:World}{base base':Nat}{e:TypeId}{size n:Nat}{v:Value}{xs:List Value}(h:w.ownsRow base e size v n xs)(D:base'≤base):w.ownsRow base' e size v n xs:=by
  obtain⟨h1,h2⟩:=h;refine⟨h1,?_⟩;rcases h2 with h2|⟨g,cap,cur,rfl,hg,r⟩
  · exact .inl h2
  · exact .inr ⟨g,cap,cur,rfl,Nat.le_trans D hg,r⟩
section
variable {α:Type} {enc:α→Value} {d:α}
def encs(enc:α→Value)(xs:List α):List Value:=xs.map enc
def Kz(d:α)(xs:List α)(i:Int):α:=xs.getD i.toNat d
theorem zU(xs:List α):(encs enc xs).length=xs.length:=by simp[encs]
def sD(enc:α→Value)(d:α)(w:World)(A:Option Addr)(n:Nat)(xs:List α):Prop:=
  xs.length=n∧n≤9223372036854775807∧(0<n→∃ad,A=some ad∧∀j,j<n→w.cell? (ad.add j)=some (enc (xs.getD j d)))
theorem sD.at_{w:World}{A:Option Addr}{n:Nat}{xs:List α}(h:sD enc d w A n xs)(i:Int)(G:0≤i)(h1:i<n):∃ad,A=some ad∧w.cell? (ad.add i.toNat)=some (enc (Kz d xs i)):=by
  obtain⟨ad,e,D⟩:=h.2.2 (by omega);exact⟨ad,e,D _ (by omega)⟩
theorem sD.below{w w1:World}{A:Option Addr}{n:Nat}{xs:List α}(h:sD enc d w A n xs)(L:Below w.heap.size w w1):sD enc d w1 A n xs:=
  ⟨h.1,h.2.1,fun I=>by
    obtain⟨ad,e,D⟩:=h.2.2 I
    exact⟨ad,e,fun j G=>wS L (D j G)⟩⟩
theorem sD.HV{w:World}{A:Option Addr}{n:Nat}{xs:List α}(h:sD enc d w A n xs)(i:Nat)(hi:i≤n):sD enc d w A i (xs.take i):=by
  refine⟨by rw[List.length_take,h.1];omega,by have:=h.2.1;omega,fun I=>?_⟩;obtain⟨ad,e,D⟩:=h.2.2 (by omega);refine⟨ad,e,fun j G=>?_⟩;rw[D j (by omega)];simp[List.getD_eq_getElem?_getD,G]
theorem BD {P:Program} (t e:TypeId) (z:Value) (D:Nat) (ht:P.underlying t=some (.slice e)) (G:(P.info? e).map (fun i=>(i.zero,i.size,i.bytes))=some (some z,1,D)) (U:z.cells=#[z]) (I:0<D)
    (m:Nat) (L:m*D≤281474976710656):
    ∀W:World,(Instr.makeSlice t (.int .i64 (m:Int)) (.int .i64 (m:Int))).run P W= .ok (.slice (some ⟨W.heap.size,0,none⟩) m m) (W.alloc (.cells (madeCells #[z] m) e)):=by
  intro W;have X:m≤281474976710656:=Nat.le_trans (Nat.le_mul_of_pos_right _ I) L;exact run_make_row' t e z D ht G U .i64 .i64 m (by rw[Nat.mul_comm];exact L) (by omega) W
end
section
variable {α:Type} {P:Program} {ops:Array Oper} {rest:List Oper} {o:Oper} {a:Act} {Q:Exit→Act→World→Prop}
end
theorem sG{w:World}{g:Nat}{o:Obj}(h:w.heap[g]?=some o)(D:Obj):(w.alloc D).heap[g]?=some o:=(Below.heap_alloc w D g (rX h)).trans h
theorem vK{w:World}{g:Nat}{o:Obj}(h:w.heap[g]?=some o):w.drew.heap[g]?=some o:=h
theorem zJ{w:World}{g:Nat}{o:Obj}(h:w.heap[g]?=some o)(n:Nat):(w.drewN n).heap[g]?=some o:=h
theorem iW{w w1:World}{g:Nat}{o:Obj}(h:w.heap[g]?=some o)(D:Below w.heap.size w w1):w1.heap[g]?=some o:=(D.block g (rX h)).trans h
theorem qF(w:World)(o:Obj):(w.alloc o).heap[w.heap.size]?=some o:=heap_alloc_new w o
section
variable {P:Program}
theorem kU {I:Func} {p u:Tmp} {D:TypeId} (h:I.results=#[.cell p D, .tmp u]) (tmps:Array Value) (w:World) (g:Nat) (t:TypeId) (cs:Array Value) (fr:Nat×Nat) (d:TypeDesc)
    (U:tmps.getD p undef= .pointer (some ⟨g,0,none⟩)) (L:w.heap[g]?=some (.cells cs t fr))
    (X:P.underlying D=some d) (hd:(match d with| .struct _| .array _ _=>true|_=>false)=true) (hi:(P.info? D).map (·.size)=some cs.size):
    (results I tmps).run P w= .ok (.tuple #[.agg cs,tmps.getD u undef]) w:=by
  have G:tmps[p]?.getD undef= .pointer (some ⟨g,0,none⟩):=by simpa using U
  simp[results,h,G,asAddr,run_loadVar_row w g t D cs fr d L X hd hi]
theorem tQ {I:Func} {p u v:Tmp} {D:TypeId} (h:I.results=#[.cell p D, .tmp u, .tmp v]) (tmps:Array Value) (w:World) (g:Nat) (t:TypeId) (cs:Array Value) (fr:Nat×Nat) (d:TypeDesc)
    (L:tmps.getD p undef= .pointer (some ⟨g,0,none⟩)) (U:w.heap[g]?=some (.cells cs t fr))
    (X:P.underlying D=some d) (hd:(match d with| .struct _| .array _ _=>true|_=>false)=true) (hi:(P.info? D).map (·.size)=some cs.size):
    (results I tmps).run P w= .ok (.tuple #[.agg cs,tmps.getD u undef,tmps.getD v undef]) w:=by
  have G:tmps[p]?.getD undef= .pointer (some ⟨g,0,none⟩):=by simpa using L
  simp[results,h,G,asAddr,run_loadVar_row w g t D cs fr d U X hd hi]
end
theorem Kv{w:World}{base n m c size:Nat}{e:TypeId}{A:Option Addr}{xs:List Value}(h:w.ownsRow base e size (.slice A m c) n xs):m≤c:=by
  rcases h.2 with⟨D,_⟩|⟨g,_,_,D,_,_,_,_⟩
  · injection D with _ h2 h3
    omega
  · injection D with _ h2 h3
    omega
def rU{α:Type}(R:α→List Value→Prop)(e:TypeId)(size:Nat)(w:World)(base:Nat)(v:Value)(ps:List α):Prop:=
  ∃inner,w.ownsRow base e size v ps.length inner∧qC R size ps inner
section
variable {α:Type} {R R':α→List Value→Prop} {e:TypeId} {size:Nat} {w w1:World} {base:Nat} {v:Value} {ps:List α}
theorem rU.none_(R:α→List Value→Prop)(e:TypeId)(size:Nat)(w:World)(base:Nat):rU R e size w base (.slice none 0 0) []:=⟨[],JQ _ _ _ _,qC.none _ _⟩
theorem rU.zf(h:rU R e size w base v ps)(D:∀p c,R p c→R' p c):rU R' e size w base v ps:=by
  obtain⟨inner,I,G⟩:=h;exact⟨inner,I,G.zf D⟩
theorem rU.below(h:rU R e size w base v ps)(I:Below w.heap.size w w1):rU R e size w1 base v ps:=by
  obtain⟨inner,D,G⟩:=h;exact⟨inner,Cu D I,G⟩
theorem rU.other(h:rU R e size w base v ps){row:Option Nat}(G:w.grownBy w1 row)(D:v.ownBlock=none∨v.ownBlock≠row):rU R e size w1 base v ps:=by
  obtain⟨inner,I,L⟩:=h;exact⟨inner,FZ I G D,L⟩
theorem rU.keep(h:rU R e size w base v ps){g:Nat}{t:TypeId}{cells:Array Value}(I:w.heap[g]?=some (.cells cells t (0,0)))(ht:e≠t)(hk:sK w w1 g none):rU R e size w1 base v ps:=by
  obtain⟨inner,D,G⟩:=h;exact⟨inner,hk.own D (Ne.symm (own_ne D I ht)) (by cases v.ownBlock<;>simp),G⟩
theorem rU.reads(h:rU R e size w base v ps):∃A c,v= .slice A ps.length c∧ps.length≤c∧sV R size w A ps.length ps:=by
  obtain⟨inner,G,I⟩:=h;obtain⟨A,c,rfl,D⟩:=Bt G I rfl;exact⟨A,c,rfl,Kv G,D⟩
theorem rU.IB(h:rU R e size w base v ps){g:Nat}{t:TypeId}{cells:Array Value}(G:w.heap[g]?=some (.cells cells t (0,0)))(ht:e≠t):some g≠v.ownBlock:=by
  obtain⟨inner,D,_⟩:=h;exact own_ne D G ht
theorem rU.lit(W:World)(base:Nat){inner:List Value}(D:qC R size ps inner)(I:base≤W.heap.size)(G:ps.length≤9223372036854775807):
    rU R e size (W.alloc (.cells inner.toArray e)) base (.slice (some ⟨W.heap.size,0,none⟩) ps.length ps.length) ps:=by
  have h:=World.ownsRow_lit (base:=base) (e:=e) (size:=size) W inner.toArray ps.length I (by simpa[maxLen]using G) (by simpa using D.1);exact⟨inner,by simpa using h,D⟩
end
section
variable {P:Program} {ops:Array Oper} {rest:List Oper} {o:Oper} {a:Act} {Q:Exit→Act→World→Prop} {α:Type} {R:α→List Value→Prop}
theorem rU.append {w0 W:World} (base:Nat) (ab:o.guard=none) (s x:Operand) (t e:TypeId) (z:Value) (size D:Nat)
    (ho:o.op= .call {callee:= .builtin .append,args:=#[s,x],argTypes:=#[t,t]})
    (ht:P.underlying t=some (.slice e)) (L:(P.info? e).map (fun i=>(i.zero,i.size,i.bytes))=some (some z,size,D)) (hz:z.cells.size=size) (af:0<size) (ae:0<D)
    (v:Value) (ps:List α) (p:α) (cs:List Value) (hs:a.eval s=v) (hx:a.eval x= .slice (some ⟨W.heap.size,0,none⟩) 1 1) (hp:R p cs) (Y:cs.length=size) (h1:∀u∈cs,u.oneCell'=true)
    (HO:rU R e size W base v ps) (HB:Below base w0 W) (G:base≤W.heap.size) (hl:(ps.length+1)*D≤140737488355328)
    (h:∀v1 w1,rU R e size w1 base v1 (ps++[p])→Below base w0 w1→W.grownBy w1 v.ownBlock→(v1.ownBlock=v.ownBlock∨∃b,v1.ownBlock=some b∧W.heap.size≤b)→wpList P ops Q rest (a.put o.dst v1) w1):
    wpList P ops Q (o::rest) a (W.alloc (.cells cs.toArray e)):=by
  obtain⟨inner,X,hr⟩:=HO;refine wF base ab s x t e z size D ho ht L hz af ae v ps.length inner cs hs hx Y h1 X HB G hl ?_;intro v1 w1 I aa Z U;exact h v1 w1 ⟨inner++cs,by rw[List.length_append,List.length_singleton];exact I,hr.snoc hp Y⟩ aa Z U
end
section
variable {P:Program} {ops:Array Oper} {o:Oper} {a:Act} {Q:Exit→Act→World→Prop} {K:Act→World→Prop} {α:Type} {R:α→List Value→Prop}
end
theorem sV.K4{α:Type}{R:α→List Value→Prop}{size:Nat}{w:World}{ad:Addr}{n:Nat}{ps:List α}(h:sV R size w (some ad) n ps):
    ∃inner,qC R size ps inner∧∀j u,inner[j]?=some u→w.cell? (ad.add j)=some u:=by
  have Z:∀m,m≤ps.length→∃inner,qC R size (ps.take m) inner∧∀j u,inner[j]?=some u→w.cell? (ad.add j)=some u:=by
    intro m
    induction m with
    |zero=>exact fun _=>⟨[],qC.none _ _,fun j u G=>by simp at G⟩
    |succ m ih=>
      intro hm;obtain⟨inner,I,L⟩:=ih (by omega);obtain⟨_,X,D⟩:=h.2.2 (by have:=h.1;omega);injection X with X;subst X;obtain⟨c,aa,hp,Y⟩:=D m _ (List.getElem?_eq_getElem (show m<ps.length by omega));refine⟨inner++c,?_,fun j u G=>?_⟩
      · rw[List.take_succ_eq_append_getElem (show m<ps.length by omega)]
        exact I.snoc hp aa
      · have U:inner.length=m*size:=by rw[I.1,List.length_take,Nat.min_eq_left (by omega)]
        rcases Nat.lt_or_ge j inner.length with hj|hj
        · rw[List.getElem?_append_left hj]at G
          exact L j u G
        · rw[List.getElem?_append_right hj]at G
          have:=Y (j-inner.length) u G;rwa[U,Nat.add_sub_cancel' (by omega)]at this
  obtain⟨inner,I,L⟩:=Z ps.length (Nat.le_refl _);rw[List.take_length]at I;exact⟨inner,I,L⟩
section
variable {α:Type} {P:Program}
end
section
variable {P:Program} {ops:Array Oper} {rest:List Oper} {o:Oper} {a:Act} {Q:Exit→Act→World→Prop}
end
structure Kd (α:Type) where
  sz:Nat
  E:List Nat
  K:World→α→List Value→Prop
  M:World→Nat→(Nat→Prop)→α→List Value→Prop
  vg:∀{w x cs},K w x cs→cs.length=sz
  vk:∀{w x cs},K w x cs→∀u∈cs,u.oneCell'=true
  tC:∀{w w1:World} {x cs},Below w.heap.size w w1→K w x cs→K w1 x cs
  sS:∀{w base ok x cs},M w base ok x cs→K w x cs
  rY:∀{w base ok ok' x cs},(∀k,ok k→ok' k)→M w base ok x cs→M w base ok' x cs
  sF:∀{w:World} {base ok x cs},M w base ok x cs→M w base (fun k=>ok k∧base≤k∧k<w.heap.size∧∃q,q∈E∧∃cells,w.heap[k]?=some (.cells cells q (0,0))) x cs
  sZ:∀{w w1:World} {base ok x cs},(∀k,ok k→w1.heap[k]?=w.heap[k]?)→M w base ok x cs→M w1 base ok x cs
  tu:∀{w base base' ok x cs},base'≤base→M w base ok x cs→M w base' ok x cs
theorem DR{w w1:World}{base:Nat}{e:TypeId}{size n:Nat}{v:Value}{xs:List Value}(h:w.ownsRow base e size v n xs)(D:∀k,v.ownBlock=some k→w1.heap[k]?=w.heap[k]?):w1.ownsRow base e size v n xs:=by
  obtain⟨h1,h2⟩:=h;refine⟨h1,?_⟩;rcases h2 with h2|⟨g,cap,cur,rfl,hg,hh,r⟩
  · exact .inl h2
  · exact .inr ⟨g,cap,cur,rfl,hg,(D g (by simp[Value.ownBlock])).trans hh,r⟩
theorem yu{w:World}{base:Nat}{e:TypeId}{size n:Nat}{v:Value}{xs:List Value}(h:w.ownsRow base e size v n xs)(k:Nat)(hk:v.ownBlock=some k):∃cells,w.heap[k]?=some (.cells cells e (0,0)):=by
  rcases h.2 with⟨rfl,_⟩|⟨g,_,D,rfl,_,G,_⟩
  · simp[Value.ownBlock]at hk
  · have:g=k:=by simpa[Value.ownBlock]using hk
    subst this;exact⟨D,G⟩
namespace Kd
def C{α:Type}(d:Kd α)(w:World)(A:Option Addr)(n:Nat)(xs:List α):Prop:=sV (d.K w) d.sz w A n xs
def R{α:Type}(d:Kd α)(e:Nat)(w:World)(base:Nat)(ok:Nat→Prop)(v:Value)(xs:List α):Prop:=
  (∀k,v.ownBlock=some k→ok k)∧rU (d.M w base (fun k=>ok k∧some k≠v.ownBlock)) e d.sz w base v xs
section
variable {α:Type} {d:Kd α} {e:Nat} {w w1:World} {base:Nat} {ok ok':Nat→Prop} {v:Value} {xs:List α}
theorem iT{A:Option Addr}{n:Nat}(h:d.C w A n xs)(D:Below w.heap.size w w1):d.C w1 A n xs:=sV.zf h D (fun _ _ G=>d.tC D G)
theorem sO(d:Kd α)(e:Nat)(w:World)(base:Nat)(ok:Nat→Prop):d.R e w base ok (.slice none 0 0) []:=⟨fun k hk=>by simp[Value.ownBlock]at hk,rU.none_ _ _ _ _ _⟩
theorem kP(h:d.R e w base ok v xs)(D:∀k,ok k→ok' k):d.R e w base ok' v xs:=⟨fun k hk=>D k (h.1 k hk),h.2.zf (fun _ _ G=>d.rY (fun k hk=>⟨D k hk.1,hk.2⟩) G)⟩
theorem xB(h:d.R e w base ok v xs):d.R e w base (fun k=>ok k∧base≤k∧k<w.heap.size∧∃q,q∈e::d.E∧∃cells,w.heap[k]?=some (.cells cells q (0,0))) v xs:=by
  obtain⟨L,inner,D,X⟩:=h;refine⟨fun k hk=>?_,inner,D,X.zf (fun _ _ Z=>d.rY (fun k hk=>?_) (d.sF Z))⟩
  · obtain⟨cells,G⟩:=yu D k hk
    exact⟨L k hk,xZ D k hk,Ib D k hk,e,List.mem_cons_self,cells,G⟩
  · obtain⟨⟨h1,h2⟩,Y,I,q,U,G⟩:=hk
    exact⟨⟨h1,Y,I,q,List.mem_cons_of_mem _ U,G⟩,h2⟩
theorem Ao(h:d.R e w base ok v xs)(G:∀k,ok k→w1.heap[k]?=w.heap[k]?):d.R e w1 base ok v xs:=by
  obtain⟨D,inner,L,I⟩:=h;exact⟨D,inner,DR L (fun k hk=>G k (D k hk)),I.zf (fun _ _ U=>d.sZ (fun k hk=>G k hk.1) U)⟩
theorem uW{base':Nat}(h:d.R e w base ok v xs)(D:base'≤base):d.R e w base' ok v xs:=by
  obtain⟨G,inner,L,I⟩:=h;exact⟨G,inner,EJ L D,I.zf (fun _ _ U=>d.tu D U)⟩
theorem Ht(h:d.R e w base ok v xs)(D:∀k,ok k→k<w.heap.size→w1.heap[k]?=w.heap[k]?):d.R e w1 base ok v xs:=
  kP (Ao (xB h) (fun k hk=>D k hk.1 hk.2.2.1)) (fun _ hk=>hk.1)
theorem KC{x:α}{cs:List Value}(h:d.M w base ok x cs)(D:∀k,ok k→k<w.heap.size→w1.heap[k]?=w.heap[k]?):d.M w1 base ok x cs:=
  d.rY (fun _ hk=>hk.1) (d.sZ (fun k hk=>D k hk.1 hk.2.2.1) (d.sF h))
theorem qJ(h:d.R e w base ok v xs)(D:Below w.heap.size w w1):d.R e w1 base ok v xs:=Ht h (fun k _ hk=>D.block k hk)
theorem JG{x:α}{cs:List Value}(h:d.M w base ok x cs)(D:Below w.heap.size w w1):d.M w1 base ok x cs:=KC h (fun k _ hk=>D.block k hk)
theorem uK(h:d.R e w base ok v xs){p:Addr}(D:∀k,ok k→k≠p.block)(u:Value):d.R e (w.setCell p u) base ok v xs:=Ht h (fun k G _=>Below.heap_setCell w p u k (D k G))
theorem kI(h:d.R e w base ok v xs){g t:Nat}{cells:Array Value}(D:w.heap[g]?=some (.cells cells t (0,0)))(ht:∀q,q∈e::d.E→q≠t):d.R e w base (fun k=>ok k∧k≠g) v xs:=
  kP (xB h) (fun k hk=>⟨hk.1,by
    obtain⟨_,_,_,q,I,_,G⟩:=hk
    rintro rfl
    rw[G]at D
    injection D with D
    injection D with _ D
    exact ht q I D⟩)
theorem wL(h:d.R e w base ok v xs){g t:Nat}{cells:Array Value}(D:w.heap[g]?=some (.cells cells t (0,0)))(ht:∀q,q∈e::d.E→q≠t)(j:Nat)(u:Value):d.R e (w.setCell ⟨g,j,none⟩ u) base ok v xs:=
  kP (uK (p:=⟨g,j,none⟩) (kI h D ht) (fun _ hk=>hk.2) u) (fun _ hk=>hk.1)
theorem vP(h:d.R e w base ok v xs):∃A c,v= .slice A xs.length c∧xs.length≤c∧d.C w A xs.length xs:=by
  obtain⟨A,c,D,hl,I⟩:=rU.reads h.2;exact⟨A,c,D,hl,I.zf (Below.refl _ _) (fun _ _ G=>d.sS G)⟩
theorem qw(h:d.R e w base ok v xs):∃A c,v= .slice A xs.length c:=by
  obtain⟨A,c,D,_⟩:=vP h;exact⟨A,c,D⟩
theorem FQ(h:d.R e w base ok v xs):∃inner,w.ownsRow base e d.sz v xs.length inner:=by
  obtain⟨_,inner,D,_⟩:=h;exact⟨inner,D⟩
theorem sH(h:d.R e w base ok v xs){g t:Nat}{cells:Array Value}(D:w.heap[g]?=some (.cells cells t (0,0)))(ht:e≠t):some g≠v.ownBlock:=rU.IB h.2 D ht
end
def scalar{α:Type}(enc:α→Value)(h1:∀x,(enc x).oneCell'=true):Kd α where
  sz:=1
  E:=[]
  K:=fun _ x cs=>cs=[enc x]
  M:=fun _ _ _ x cs=>cs=[enc x]
  vg:=fun h=>by rw[h];rfl
  vk:=fun h u D=>by
    rw[h]at D
    rw[List.mem_singleton.1 D]
    exact h1 _
  tC:=fun _ h=>h
  sS:=fun h=>h
  rY:=fun _ h=>h
  sF:=fun h=>h
  sZ:=fun _ h=>h
  tu:=fun _ h=>h
def int(k:IntKind):Kd Int:=scalar (Value.int k) (fun _=>rfl)
def bool:Kd Bool:=scalar Value.bool (fun _=>rfl)
def string:Kd ByteArray:=scalar Value.string (fun _=>rfl)
def slice{α:Type}(e:Nat)(d:Kd α):Kd (List α) where
  sz:=1
  E:=e::d.E
  K:=fun w xs cs=>∃A c,cs=[.slice A xs.length c]∧xs.length≤c∧d.C w A xs.length xs
  M:=fun w base ok xs cs=>∃v,cs=[v]∧d.R e w base ok v xs
  vg:=by
    rintro w x cs⟨A,c,rfl,_⟩;rfl
  vk:=by
    rintro w x cs⟨A,c,rfl,_⟩u U;rw[List.mem_singleton.1 U];rfl
  tC:=by
    rintro w w1 x cs D⟨A,c,rfl,hl,G⟩;exact⟨A,c,rfl,hl,iT G D⟩
  sS:=by
    rintro w base ok x cs⟨v,rfl,h⟩;obtain⟨A,c,rfl,hl,G⟩:=vP h;exact⟨A,c,rfl,hl,G⟩
  rY:=by
    rintro w base ok ok' x cs I⟨v,rfl,h⟩;exact⟨v,rfl,kP h I⟩
  sF:=by
    rintro w base ok x cs⟨v,rfl,h⟩;exact⟨v,rfl,xB h⟩
  sZ:=by
    rintro w w1 base ok x cs L⟨v,rfl,h⟩;exact⟨v,rfl,Ao h L⟩
  tu:=by
    rintro w base base' ok x cs D⟨v,rfl,h⟩;exact⟨v,rfl,uW h D⟩
def pair{α β:Type}(a:Kd α)(b:Kd β):Kd (α×β) where
  sz:=a.sz+b.sz
  E:=a.E++b.E
  K:=fun w x cs=>∃D c1,cs=D++c1∧a.K w x.1 D∧b.K w x.2 c1
  M:=fun w base ok x cs=>∃D c1,cs=D++c1∧a.M w base ok x.1 D∧b.M w base ok x.2 c1
  vg:=by
    rintro w x cs⟨D,c1,rfl,G,h1⟩;rw[List.length_append,a.vg G,b.vg h1]
  vk:=by
    rintro w x cs⟨D,c1,rfl,G,h1⟩u U;rcases List.mem_append.1 U with U|U
    · exact a.vk G u U
    · exact b.vk h1 u U
  tC:=by
    rintro w w1 x cs I⟨D,c1,rfl,G,h1⟩;exact⟨D,c1,rfl,a.tC I G,b.tC I h1⟩
  sS:=by
    rintro w base ok x cs⟨D,c1,rfl,G,h1⟩;exact⟨D,c1,rfl,a.sS G,b.sS h1⟩
  rY:=by
    rintro w base ok ok' x cs L⟨D,c1,rfl,G,h1⟩;exact⟨D,c1,rfl,a.rY L G,b.rY L h1⟩
  sF:=by
    rintro w base ok x cs⟨D,c1,rfl,G,h1⟩;refine⟨D,c1,rfl,a.rY ?_ (a.sF G),b.rY ?_ (b.sF h1)⟩
    · rintro k⟨h2,Y,Z,q,hq,X⟩
      exact⟨h2,Y,Z,q,List.mem_append_left _ hq,X⟩
    · rintro k⟨h2,Y,Z,q,hq,X⟩
      exact⟨h2,Y,Z,q,List.mem_append_right _ hq,X⟩
  sZ:=by
    rintro w w1 base ok x cs hm⟨D,c1,rfl,G,h1⟩;exact⟨D,c1,rfl,a.sZ hm G,b.sZ hm h1⟩
  tu:=by
    rintro w base base' ok x cs I⟨D,c1,rfl,G,h1⟩;exact⟨D,c1,rfl,a.tu I G,b.tu I h1⟩
def iso{α β:Type}(d:Kd α)(f:β→α):Kd β where
  sz:=d.sz
  E:=d.E
  K:=fun w x cs=>d.K w (f x) cs
  M:=fun w base ok x cs=>d.M w base ok (f x) cs
  vg:=d.vg
  vk:=d.vk
  tC:=d.tC
  sS:=d.sS
  rY:=d.rY
  sF:=d.sF
  sZ:=d.sZ
  tu:=d.tu
def bot{α:Type}(sz:Nat)(E:List Nat):Kd α where
  sz:=sz
  E:=E
  K:=fun _ _ _=>False
  M:=fun _ _ _ _ _=>False
  vg:=fun h=>h.elim
  vk:=fun h=>h.elim
  tC:=fun _ h=>h
  sS:=fun h=>h
  rY:=fun _ h=>h
  sF:=fun h=>h
  sZ:=fun _ h=>h
  tu:=fun _ h=>h
def upto{α:Type}(F:Kd α→Kd α)(sz:Nat)(E:List Nat):Nat→Kd α
  |0=>bot sz E
  |n+1=>F (upto F sz E n)
theorem FD{α:Type}{d:Kd α}{w:World}{A:Option Addr}{n:Nat}{xs:List α}(h:d.C w A n xs)(z:α)(i:Int)(D:0≤i)(h1:i<n):
    ∃ad c,A=some ad∧c.length=d.sz∧d.K w (xs.getD i.toNat z) c∧∀j u,c[j]?=some u→w.cell? (ad.add (i.toNat*d.sz+j))=some u:=sV.MN h z i D h1
theorem AL {α:Type} {d:Kd α} {e base:Nat} {ok okp:Nat→Prop} {W w1:World} {v v1:Value} {xs:List α} {p:α} {inner cs:List Value} (h0:∀k,v.ownBlock=some k→ok k) (hr:qC (d.M W base (fun k=>ok k∧some k≠v.ownBlock)) d.sz xs inner) (hp:d.M W base okp p cs) (L:∀k,okp k→ok k∧some k≠v.ownBlock) (G:∀k,W.heap.size≤k→ok k)
    (I:w1.ownsRow base e d.sz v1 (xs.length+1) (inner++cs)) (hg:W.grownBy w1 v.ownBlock) (D:v1.ownBlock=v.ownBlock∨∃b,v1.ownBlock=some b∧W.heap.size≤b):d.R e w1 base ok v1 (xs++[p]):=by
  have X:∀k,some k≠v.ownBlock→k<W.heap.size→some k≠v1.ownBlock:=by
    intro k hk aa;rcases D with D|⟨b,hb,hle⟩
    · rw[D];exact hk
    · rw[hb]
      intro Z;injection Z with Z;omega
  have step:∀{q:α} {c:List Value} {o:Nat→Prop},d.M W base o q c→(∀k,o k→ok k∧some k≠v.ownBlock)→d.M w1 base (fun k=>ok k∧some k≠v1.ownBlock) q c:=by
    intro q c o Y U;have h1:=d.sZ (w1:=w1) (fun k hk=>hg.block k hk.2.2.1 (U k hk.1).2) (d.sF Y);exact d.rY (fun k hk=>⟨(U k hk.1).1,X k (U k hk.1).2 hk.2.2.1⟩) h1
  refine⟨fun k hk=>?_,inner++cs,by rw[List.length_append,List.length_singleton];exact I,?_⟩
  · rcases D with D|⟨b,hb,hle⟩
    · exact h0 k (D▸hk)
    · rw[hb]at hk
      injection hk with hk;exact G k (by omega)
  · exact(hr.zf (fun _ _ Y=>step Y (fun _ hk=>hk))).snoc (step hp L) (d.vg (d.sS hp))
section
variable {P:Program} {ops:Array Oper} {rest:List Oper} {o:Oper} {a:Act} {Q:Exit→Act→World→Prop} {α:Type}
theorem rF (d:Kd α) {w0 W:World} (base:Nat) (ae:o.guard=none) (s x:Operand) (t e:TypeId) (z:Value) (D:Nat)
    (ho:o.op= .call {callee:= .builtin .append,args:=#[s,x],argTypes:=#[t,t]})
    (ht:P.underlying t=some (.slice e)) (X:(P.info? e).map (fun i=>(i.zero,i.size,i.bytes))=some (some z,d.sz,D)) (hz:z.cells.size=d.sz) (ag:0<d.sz) (af:0<D)
    (v:Value) (xs:List α) (p:α) (cs:List Value) (ok okp:Nat→Prop) (hs:a.eval s=v) (hx:a.eval x= .slice (some ⟨W.heap.size,0,none⟩) 1 1) (hp:d.M W base okp p cs) (Y:∀k,okp k→ok k∧some k≠v.ownBlock) (G:∀k,W.heap.size≤k→ok k)
    (HO:d.R e W base ok v xs) (HB:Below base w0 W) (L:base≤W.heap.size) (hl:(xs.length+1)*D≤140737488355328)
    (h:∀v1 w1,d.R e w1 base ok v1 (xs++[p])→Below base w0 w1→W.grownBy w1 v.ownBlock→(v1.ownBlock=v.ownBlock∨∃b,v1.ownBlock=some b∧W.heap.size≤b)→wpList P ops Q rest (a.put o.dst v1) w1):
    wpList P ops Q (o::rest) a (W.alloc (.cells cs.toArray e)):=by
  obtain⟨h0,inner,aa,hr⟩:=HO;refine wF base ae s x t e z d.sz D ho ht X hz ag af v xs.length inner cs hs hx (d.vg (d.sS hp)) (d.vk (d.sS hp)) aa HB L hl ?_;intro v1 w1 U ab Z I;exact h v1 w1 (AL h0 hr hp Y G U Z I) ab Z I
end
section
variable {P:Program} {ops:Array Oper} {o:Oper} {a:Act} {Q:Exit→Act→World→Prop} {Kc:Act→World→Prop} {α:Type}
theorem vC (d:Kd α) {w0 W:World} (base:Nat) (hw:Region.wanted o (yielded ops a.tmps)=true) (s x:Operand) (t e:TypeId) (z:Value) (D:Nat)
    (ho:o.op= .call {callee:= .builtin .append,args:=#[s,x],argTypes:=#[t,t]})
    (ht:P.underlying t=some (.slice e)) (X:(P.info? e).map (fun i=>(i.zero,i.size,i.bytes))=some (some z,d.sz,D)) (hz:z.cells.size=d.sz) (af:0<d.sz) (ae:0<D)
    (v:Value) (xs:List α) (p:α) (cs:List Value) (ok okp:Nat→Prop) (hs:a.eval s=v) (hx:a.eval x= .slice (some ⟨W.heap.size,0,none⟩) 1 1) (hp:d.M W base okp p cs) (Y:∀k,okp k→ok k∧some k≠v.ownBlock) (G:∀k,W.heap.size≤k→ok k)
    (HO:d.R e W base ok v xs) (HB:Below base w0 W) (L:base≤W.heap.size) (hl:(xs.length+1)*D≤140737488355328)
    (h:∀v1 w1,d.R e w1 base ok v1 (xs++[p])→Below base w0 w1→W.grownBy w1 v.ownBlock→(v1.ownBlock=v.ownBlock∨∃b,v1.ownBlock=some b∧W.heap.size≤b)→Kc (a.put o.dst v1) w1):
    if Region.wanted o (yielded ops a.tmps)=true then Oper.wp P o a (W.alloc (.cells cs.toArray e)) Kc Q else Kc (a.put o.dst undef) (W.alloc (.cells cs.toArray e)):=by
  obtain⟨h0,inner,aa,hr⟩:=HO;refine yT base hw s x t e z d.sz D ho ht X hz af ae v xs.length inner cs hs hx (d.vg (d.sS hp)) (d.vk (d.sS hp)) aa HB L hl ?_;intro v1 w1 U ab Z I;exact h v1 w1 (AL h0 hr hp Y G U Z I) ab Z I
end
theorem Ef{α:Type}{enc:α→Value}(xs:List α):qC (fun(x:α) (cs:List Value)=>cs=[enc x]) 1 xs (encs enc xs):=by
  refine⟨by simp[encs],fun j p G=>?_⟩;obtain⟨hl,I⟩:=List.getElem?_eq_some_iff.1 G;have D:j<(encs enc xs).length:=by rw[zU];exact hl
  rw[Nat.mul_one,List.drop_eq_getElem_cons D];simp[encs,I]
theorem IQ{α:Type}{enc:α→Value}{h1:∀x,(enc x).oneCell'=true}{e:Nat}{w:World}{base:Nat}{ok:Nat→Prop}{v:Value}{xs:List α}(G:w.ownsRow base e 1 v xs.length (encs enc xs))(D:∀k,v.ownBlock=some k→ok k):(scalar enc h1).R e w base ok v xs:=⟨D,encs enc xs,G,Ef xs⟩
theorem Ic{α:Type}{enc:α→Value}{h1:∀x,(enc x).oneCell'=true}{e:Nat}{w:World}{base:Nat}{ok:Nat→Prop}{v:Value}{xs:List α}(h:(scalar enc h1).R e w base ok v xs):w.ownsRow base e 1 v xs.length (encs enc xs):=by
  obtain⟨_,inner,L,D⟩:=h;have:inner=encs enc xs:=by
    apply List.ext_getElem?;intro j;rcases Nat.lt_or_ge j xs.length with hj|hj
    · have h2:=D.2 j _ (List.getElem?_eq_getElem hj)
      (have hl:j<inner.length:=by have:=D.1;simp[scalar]at this;omega);have G:(inner.drop (j*1)).take 1=[enc xs[j]]:=h2;rw[Nat.mul_one,List.drop_eq_getElem_cons hl]at G;have U:inner[j]=enc xs[j]:=by
        have I:=congrArg List.head? G;rw[List.take_succ_cons]at I;exact Option.some.inj I
      rw[List.getElem?_eq_getElem hl,U];simp[encs,List.getElem?_eq_getElem hj]
    · have G:inner.length=xs.length:=by have:=D.1;simp[scalar]at this;omega
      rw[List.getElem?_eq_none (by omega),List.getElem?_eq_none (by rw[zU];omega)]
  rw[←this];exact L
theorem Bg{α:Type}{enc:α→Value}{d:α}{h1:∀x,(enc x).oneCell'=true}{w:World}{A:Option Addr}{n:Nat}{xs:List α}(h:(scalar enc h1).C w A n xs):sD enc d w A n xs:=by
  refine⟨h.1,h.2.1,fun L=>?_⟩;obtain⟨ad,e,I⟩:=h.2.2 L;refine⟨ad,e,fun j X=>?_⟩;have hl:j<xs.length:=by have:=h.1;omega
  obtain⟨c,_,U,D⟩:=I j _ (List.getElem?_eq_getElem hl);have G:c=[enc xs[j]]:=U;subst G;have:=D 0 _ rfl;simpa[scalar,List.getD_eq_getElem?_getD,List.getElem?_eq_getElem hl]using this
end Kd
namespace Kd
def Sub{α β:Type}(F:Kd α→Kd β)(E:List Nat):Prop:=∀d:Kd α,(∀q,q∈d.E→q∈E)→∀q,q∈(F d).E→q∈E
section
variable {α:Type} {F:Kd α→Kd α} {sz:Nat} {E:List Nat} {hs:∀n,(upto F sz E n).sz=sz} {hE:∀n q,q∈(upto F sz E n).E→q∈E}
end
end Kd
namespace Kd
theorem J3{α:Type}{d:Kd α}{e base:Nat}{ok:Nat→Prop}{W w1:World}{u v v1:Value}{xs:List α}(h:d.R e W base (fun k=>ok k∧some k≠v.ownBlock) u xs)(I:W.grownBy w1 v.ownBlock)(D:v1.ownBlock=v.ownBlock∨∃b,v1.ownBlock=some b∧W.heap.size≤b):d.R e w1 base (fun k=>ok k∧some k≠v1.ownBlock) u xs:=by
  refine kP (Ao (xB h) (fun k hk=>I.block k hk.2.2.1 hk.1.2)) (fun k hk=>⟨hk.1.1,?_⟩);rcases D with D|⟨b,hb,hle⟩
  · rw[D];exact hk.1.2
  · rw[hb]
    intro G;injection G with G;have:=hk.2.2.1;omega
end Kd
namespace Kd
section
variable {α β:Type} {d:Kd α} {d':Kd β} {e e':Nat} {w w1 W:World} {base b b':Nat} {ok ok' okv oku:Nat→Prop} {v u:Value} {xs:List α} {ys:List β}
theorem qh(h:d.R e w base ok v xs)(o:Obj):d.R e (w.alloc o) base ok v xs:=qJ h (eX (Below.refl _ _) o)
theorem qG(h:d.R e w base ok v xs):d.R e w.drew base ok v xs:=qJ h (xH (Below.refl _ _))
theorem qx(h:d.R e w base ok v xs)(m:Nat):d.R e (w.drewN m) base ok v xs:=qJ h (eP (Below.refl _ _) m)
theorem uV{A:Option Addr}{n:Nat}(h:d.C w A n xs)(o:Obj):d.C (w.alloc o) A n xs:=iT h (eX (Below.refl _ _) o)
theorem wh{A:Option Addr}{n:Nat}(h:d.C w A n xs):d.C w.drew A n xs:=iT h (xH (Below.refl _ _))
theorem uU{A:Option Addr}{n:Nat}(h:d.C w A n xs)(m:Nat):d.C (w.drewN m) A n xs:=iT h (eP (Below.refl _ _) m)
theorem Ms(d:Kd α)(w:World):d.C w none ([]:List α).length []:=⟨rfl,by simp,fun h=>absurd h (Nat.lt_irrefl 0)⟩
theorem iY{A:Option Addr}{n c:Nat}(h:d.R e w base ok (.slice A n c) xs):n=xs.length∧n≤c∧d.C w A xs.length xs:=by
  obtain⟨_,_,D,_,G⟩:=vP h;injection D with h1 h2 h3;subst h1;exact⟨h2,by omega,G⟩
theorem Ac(h:d.R e w base ok v xs):∀k,v.ownBlock=some k→k<w.heap.size:=by
  obtain⟨inner,D⟩:=FQ h;exact Ib D
theorem vZ(h:d.R e w base ok v xs):∀k,v.ownBlock=some k→base≤k:=by
  obtain⟨inner,D⟩:=FQ h;exact xZ D
theorem xD(h:d.R e w base ok v xs)(L:0<xs.length):∃g cap,v= .slice (some ⟨g,0,none⟩) xs.length cap∧base≤g∧g<w.heap.size∧∃cells,w.heap[g]?=some (.cells cells e (0,0)):=by
  obtain⟨inner,D⟩:=FQ h;obtain⟨g,cap,G,U,hl⟩:=D.form L;obtain⟨cells,I⟩:=yu D g (by rw[G];simp[Value.ownBlock]);exact⟨g,cap,G,U,hl,cells,I⟩
end
section
variable {w W:World} {A:Option Addr} {n:Nat}
theorem tV{k:IntKind}{xs:List Int}(h:(Kd.int k).C w A n xs)(i:Int)(D:0≤i)(h1:i<n):∃ad,A=some ad∧w.cell? (ad.add i.toNat)=some (.int k (rd xs i)):=
  sD.at_ (Bg (enc:=Value.int k) (d:=(0:Int)) (h1:=fun _=>rfl) h) i D h1
theorem F5{xs:List ByteArray}(h:Kd.string.C w A n xs)(i:Int)(D:0≤i)(h1:i<n):∃ad,A=some ad∧w.cell? (ad.add i.toNat)=some (.string (Kz ByteArray.empty xs i)):=
  sD.at_ (Bg (enc:=Value.string) (d:=ByteArray.empty) (h1:=fun _=>rfl) h) i D h1
variable {α:Type} {enc:α→Value} {h1:∀x,(enc x).oneCell'=true} {e base g cap:Nat} {ok:Nat→Prop} {xs:List α}
end
section
variable {P:Program} {ops:Array Oper} {rest:List Oper} {o:Oper} {a:Act} {Q:Exit→Act→World→Prop}
theorem BP{W w1:World}{v:Value}(G:o.guard=none)(D:(execOp a.eval o).run P W= .ok (.value v) w1)(h:wpList P ops Q rest (a.put o.dst v) w1):wpList P ops Q (o::rest) a W:=by
  refine wpList_plain G fun K I=>?_;unfold Oper.wp;rw[D];exact I _ _ h
variable {α:Type}
theorem zW (d:Kd α) {w0 W:World} (base e:Nat) (U:o.guard=none) {N:Tmp} (Y:o.dst=some N) {xs:List α} {inner:List Value} {ok okp:Nat→Prop}
    (L:(execOp a.eval o).run P W= .ok (.value (.slice (some ⟨W.heap.size,0,none⟩) xs.length xs.length)) (W.alloc (.cells inner.toArray e)))
    (I:qC (d.M W base okp) d.sz xs inner) (X:∀k,okp k→ok k) (G:ok W.heap.size) (HB:Below base w0 W) (D:base≤W.heap.size) (hm:xs.length≤9223372036854775807)
    (h:∀v1 w1,d.R e w1 base ok v1 xs→Below base w0 w1→W.grownBy w1 none→(∃b,v1.ownBlock=some b∧W.heap.size≤b)→wpList P ops Q rest (a.put o.dst v1) w1):wpList P ops Q (o::rest) a W:=by
  refine BP U L (h _ _ ⟨fun k hk=>?_,inner,?_,?_⟩ (HB.alloc D _) (World.grownBy_alloc W _ none) ⟨W.heap.size,by simp[Value.ownBlock],Nat.le_refl _⟩)
  · have:W.heap.size=k:=by simpa[Value.ownBlock]using hk
    subst this;exact G
  · have h2:=World.ownsRow_lit (base:=base) (e:=e) (size:=d.sz) W inner.toArray xs.length D (by simpa[maxLen]using hm) (by simpa using I.1)
    simpa using h2
  · refine I.zf (fun p c hp=>d.rY (fun k hk=>⟨X k hk.1,fun Z=>?_⟩) (JG (d.sF hp) (eX (Below.refl _ _) _)))
    (have h3:k=W.heap.size:=by simpa[Value.ownBlock]using Z);have:=hk.2.2.1;omega
end
end Kd
theorem Ir{w:World}{base n m c size:Nat}{e:TypeId}{A:Option Addr}{xs:List Value}(h:w.ownsRow base e size (.slice A n c) n xs)(U:m≤n):w.ownsRow base e size (.slice A m c) m (xs.take (m*size)):=by
  obtain⟨h1,h2⟩:=h;refine⟨by rw[List.length_take,h1];exact Nat.min_eq_left (Nat.mul_le_mul_right _ U),?_⟩;rcases h2 with⟨D,_⟩|⟨g,_,I,D,X,Y,_,L,G,ht⟩
  · injection D with ha _ hc
    subst ha;subst hc;exact .inl ⟨by rw[show m=0 by omega],by omega⟩
  · injection D with ha _ hc
    subst ha;subst hc;refine .inr ⟨g,c,I,rfl,X,Y,by omega,L,G,?_⟩;rw[←ht,List.take_take,Nat.min_eq_left (Nat.mul_le_mul_right _ U)]
section
variable {P:Program}
theorem Ld(t e:TypeId)(G:IntKind){i:TypeInfo}(ht:P.underlying t=some (.slice e))(hi:P.info? e=some i)(A:Option Addr)(n c:Nat)(j:Int)(I:0≤j)(Y:j≤n)(X:n≤c):
    ∀W:World,(Instr.slice t (.slice A n c) none (some (.int G j)) none).run P W= .ok (.slice A j.toNat c) W:=by
  intro W;have D:P.elem t=e:=by simp[Program.elem,ht]
  have U:P.underlying t=some (.slice (P.elem t)):=by rw[D];exact ht
  have L:(A.map fun x=>x.add 0)=A:=by cases A<;>simp[Addr.add]
  rw[run_slice_h W t A n c U G j I (by omega),D];simp[sizeOf,typeInfo,hi,sliced,Result.andThen,L]
end
def MR(w:World)(base:Nat)(e:TypeId)(size:Nat)(v:Value)(n:Nat)(xs:List Value):Prop:=
  xs.length=n*size∧
  ((n=0∧∃A,v= .slice A 0 0∧∀a,A=some a→base≤a.block∧∃D,w.heap[a.block]?=some (.cells D e (0,0)))∨
   ∃g G cap D,v= .slice (some ⟨g,G*size,none⟩) n cap∧base≤g∧w.heap[g]?=some (.cells D e (0,0))∧n≤cap∧G+cap≤maxLen∧D.size=(G+cap)*size∧(D.toList.drop (G*size)).take (n*size)=xs)
section
variable {w w1:World} {base n size:Nat} {e:TypeId} {v:Value} {xs:List Value}
theorem yY{g:Nat}:∀(D:List Value) (o:Nat) {w:World} (k:Nat),k≠g→(w.setCells g o D).heap[k]?=w.heap[k]?
  |[],_,_,_,_=>rfl
  |v::r,o,w,k,hk=>by
    rw[World.setCells,yY r (o+1) k hk]
    exact Below.heap_setCell w ⟨g,o,none⟩ v k hk
theorem yH(g:Nat):∀(D:List Value) (o:Nat) (w:World),(w.setCells g o D).os=w.os∧(w.setCells g o D).tape=w.tape∧(w.setCells g o D).output=w.output∧(w.setCells g o D).heap.size=w.heap.size
  |[],_,_=>⟨rfl,rfl,rfl,rfl⟩
  |v::r,o,w=>by
    obtain⟨h1,h2,G,I⟩:=yH g r (o+1) (w.setCell ⟨g,o,none⟩ v)
    rw[World.setCells]
    exact⟨h1,h2,G,by rw[I];simp[World.setCell]⟩
theorem zA{g:Nat}{e:TypeId}:∀(G:List Value) (o:Nat) (w:World) (cur:Array Value),w.heap[g]?=some (.cells cur e (0,0))→o+G.length≤cur.size→
    ∃D,(w.setCells g o G).heap[g]?=some (.cells D e (0,0))∧D.size=cur.size∧D.toList=cur.toList.take o++G++cur.toList.drop (o+G.length)
  |[],o,w,cur,h,_=>⟨cur,h,rfl,by simp⟩
  |v::r,o,w,cur,h,hl=>by
    have h2:=FT h o v
    simp only[List.length_cons]at hl
    obtain⟨D,U,Y,X⟩:=zA r (o+1) (w.setCell ⟨g,o,none⟩ v) _ h2 (by simp;omega)
    refine⟨D,U,by rw[Y];simp,?_⟩
    rw[X,Array.toList_setIfInBounds]
    have L:o<cur.toList.length:=by rw[Array.length_toList];omega
    rw[List.take_set,List.drop_set_of_lt (by omega)]
    simp only[List.length_cons]
    rw[show o+1+r.length=o+(r.length+1) by omega]
    congr 1
    rw[List.take_succ_eq_append_getElem L,List.set_append_right _ _ (by rw[List.length_take];omega)]
    have I:o<cur.size:=by omega
    simp[Nat.min_eq_left (Nat.le_of_lt I)]
end
section
variable {P:Program}
end
namespace Kd
theorem GK{α:Type}{R:α→List Value→Prop}{size m:Nat}{ps:List α}{cs:List Value}(h:qC R size ps cs)(I:m≤ps.length):qC R size (ps.take m) (cs.take (m*size)):=by
  refine⟨by rw[List.length_take,List.length_take,h.1,Nat.min_eq_left I,Nat.min_eq_left (Nat.mul_le_mul_right _ I)],fun j p D=>?_⟩;rw[List.getElem?_take]at D
  split at D
  · rename_i G
    have:=h.2 j p D;(have L:j*size+size≤m*size:=by rw[←Nat.succ_mul];exact Nat.mul_le_mul_right _ G);rw[List.drop_take,List.take_take,Nat.min_eq_left (by omega)];exact this
  · cases D
theorem KT{α:Type}{d:Kd α}{e m n c:Nat}{w:World}{base:Nat}{ok:Nat→Prop}{A:Option Addr}{xs:List α}(h:d.R e w base ok (.slice A n c) xs)(D:m≤xs.length):d.R e w base ok (.slice A m c) (xs.take m):=by
  obtain⟨L,inner,G,Y⟩:=h;have X:n=xs.length:=by
    obtain⟨_,_,U⟩:=GN G;injection U
  subst X;have I:∀x y:Nat,(Value.slice A x c).ownBlock=(Value.slice A y c).ownBlock:=by
    intro x y;cases A<;>rfl
  refine⟨fun k hk=>L k (by rw[I _ m];exact hk),inner.take (m*d.sz),?_,?_⟩
  · rw[List.length_take,Nat.min_eq_left D]
    exact Ir G D
  · rw[I m xs.length]
    exact GK Y D
def Q{α:Type}(d:Kd α)(e:Nat)(w:World)(base:Nat)(ok:Nat→Prop)(v:Value)(xs:List α):Prop:=
  (∀k,v.ownBlock=some k→ok k)∧∃inner,MR w base e d.sz v xs.length inner∧qC (d.M w base (fun k=>ok k∧some k≠v.ownBlock)) d.sz xs inner
section
variable {α:Type} {d:Kd α} {e:Nat} {w w1 W:World} {base:Nat} {ok ok':Nat→Prop} {v:Value} {xs:List α}
end
section
variable {P:Program} {ops:Array Oper} {rest:List Oper} {o:Oper} {a:Act} {Q':Exit→Act→World→Prop} {Kc:Act→World→Prop} {α:Type}
end
end Kd
namespace Kd
section
variable {α:Type} {d:Kd α} {e e':Nat} {w w1 W:World} {base:Nat} {ok:Nat→Prop} {u v:Value} {xs:List α}
theorem uE(h:d.R e w base ok v xs):∀k,v.ownBlock=some k→∃cells,w.heap[k]?=some (.cells cells e (0,0)):=by
  obtain⟨inner,D⟩:=FQ h;exact fun k hk=>yu D k hk
theorem zn(h:d.R e W base ok u xs)(G:∀k,v.ownBlock=some k→∃cells,W.heap[k]?=some (.cells cells e' (0,0)))(ht:∀q,q∈e::d.E→q≠e')(U:W.grownBy w1 v.ownBlock):d.R e w1 base ok u xs:=by
  refine kP (Ao (xB h) (fun k hk=>U.block k hk.2.2.1 (fun X=>?_))) (fun _ hk=>hk.1);obtain⟨_,_,_,q,L,cells,I⟩:=hk;obtain⟨_,D⟩:=G k X.symm;rw[I]at D;injection D with D;injection D with _ D;exact ht q L D
theorem uq(L:d.R e W base ok u xs)(D:∀k,v.ownBlock=some k→W.heap.size≤k)(I:Below W.heap.size W w1):d.R e w1 base (fun k=>ok k∧some k≠v.ownBlock) u xs:=
  kP (Ao (xB L) (fun k hk=>I.block k hk.2.2.1)) (fun k hk=>⟨hk.1,fun G=>by have:=D k G.symm;have:=hk.2.2.1;omega⟩)
theorem vY(h:d.R e w1 W.heap.size ok v xs)(D:∀k,u.ownBlock=some k→k<W.heap.size):d.R e w1 W.heap.size (fun k=>ok k∧some k≠u.ownBlock) v xs:=
  kP (xB h) (fun k hk=>⟨hk.1,fun G=>by have:=D k G.symm;have:=hk.2.1;omega⟩)
theorem fresh'(D:∀k,u.ownBlock=some k→k<W.heap.size):∀k,W.heap.size≤k→some k≠u.ownBlock:=fun k hk G=>by have:=D k G.symm;omega
end
end Kd
theorem ze{α:Type}(a seg:List α)(o:Nat)(h:o+seg.length≤a.length)(q:Nat):
    (a.take o++seg++a.drop (o+seg.length))[q]?=if q<o then a[q]? else if q<o+seg.length then seg[q-o]? else a[q]?:=by
  have hl:(a.take o).length=o:=by rw[List.length_take];omega
  rw[List.append_assoc];by_cases h1:q<o
  · rw[if_pos h1,List.getElem?_append_left (by omega),List.getElem?_take,if_pos h1]
  · rw[if_neg h1,List.getElem?_append_right (by omega),hl]
    by_cases h2:q<o+seg.length
    · rw[if_pos h2,List.getElem?_append_left (by omega)]
    · rw[if_neg h2,List.getElem?_append_right (by omega),List.getElem?_drop]
      congr 1;omega
namespace Kd
section
variable {α:Type} {d:Kd α} {e base g n cap:Nat} {ok okp:Nat→Prop} {W:World} {xs:List α}
theorem uj(h:d.R e W base ok (.slice (some ⟨g,0,none⟩) n cap) xs)(z:α)(i:Int)(h0:0≤i)(h1:i<n):
    ∃c,c.length=d.sz∧d.M W base (fun k=>ok k∧k≠g) (xs.getD i.toNat z) c∧(∀j u,c[j]?=some u→W.cell? ⟨g,i.toNat*d.sz+j,none⟩=some u)∧∀j,W.frozen? ⟨g,i.toNat*d.sz+j,none⟩=false:=by
  obtain⟨_,_,_⟩:=iY h;obtain⟨_,inner,U,I⟩:=h;have D:i.toNat<xs.length:=by omega
  have L:i.toNat*d.sz+d.sz≤inner.length:=by rw[I.1,←Nat.succ_mul];exact Nat.mul_le_mul_right _ D
  have Z:=I.2 i.toNat _ (List.getElem?_eq_getElem D);refine⟨(inner.drop (i.toNat*d.sz)).take d.sz,by rw[List.length_take,List.length_drop];omega,?_,fun j u G=>?_,fun j=>?_⟩
  · rw[List.getD_eq_getElem?_getD,List.getElem?_eq_getElem D]
    exact d.rY (fun k hk=>⟨hk.1,fun X=>hk.2 (by rw[X];simp[Value.ownBlock])⟩) Z
  · rw[List.getElem?_take]at G
    split at G
    · rw[List.getElem?_drop]at G
      have:=U.cells (g:=g) (by simp[Value.ownBlock]) _ u G;rwa[add_plain]at this
    · cases G
  · obtain⟨cells,Y⟩:=yu U g (by simp[Value.ownBlock])
    exact iP Y _
theorem zl (h:d.R e W base ok (.slice (some ⟨g,0,none⟩) n cap) xs) (i:Int) (h0:0≤i) (h1:i<n) {c seg:List Value} {j:Nat} (ax:c.length=d.sz) (aw:∀j u,c[j]?=some u→W.cell? ⟨g,i.toNat*d.sz+j,none⟩=some u)
    (hj:j+seg.length≤d.sz) {x':α} (hM:d.M W base okp x' (c.take j++seg++c.drop (j+seg.length))) (L:∀k,okp k→ok k∧k≠g):
    d.R e (W.setCells g (i.toNat*d.sz+j) seg) base ok (.slice (some ⟨g,0,none⟩) n cap) (xs.set i.toNat x')∧W.grownBy (W.setCells g (i.toNat*d.sz+j) seg) (some g):=by
  obtain⟨Z,ai,_⟩:=iY h;obtain⟨ar,inner,ho,hr⟩:=h;have au:i.toNat<xs.length:=by omega
  have X:i.toNat*d.sz+d.sz≤inner.length:=by rw[hr.1,←Nat.succ_mul];exact Nat.mul_le_mul_right _ au
  have ay:inner.length=n*d.sz:=by rw[hr.1,Z]
  obtain⟨_,ao⟩:=ho;rcases ao with⟨hv,_⟩|⟨_,_,U,hv,hb,hh,_,aq,av,ht⟩
  · cases hv
  injection hv with ha _ hc;injection ha with ha;injection ha with hg;subst hg;subst hc;have aj:i.toNat*d.sz+j+seg.length≤U.size:=by
    have:n*d.sz≤cap*d.sz:=Nat.mul_le_mul_right _ ai;omega
  obtain⟨ae,h3,h4,h5⟩:=zA seg (i.toNat*d.sz+j) W U hh aj;obtain⟨s1,s2,s3,s4⟩:=yH g seg (i.toNat*d.sz+j) W;have I:∀k,k≠g→(W.setCells g (i.toNat*d.sz+j) seg).heap[k]?=W.heap[k]?:=fun k hk=>yY seg _ k hk;have ah:∀q,q<d.sz→c[q]?=inner[i.toNat*d.sz+q]?:=by
    intro q G;(have al:q<c.length:=by omega);have h6:=aw q _ (List.getElem?_eq_getElem al);rw[cell_of_row W g _ U e (0,0) hh]at h6;rw[List.getElem?_eq_getElem al,←h6,←ht,List.getElem?_take,if_pos (by rw[←Z];omega),Array.getElem?_toList]
  refine ⟨⟨ar, inner.take (i.toNat * d.sz + j) ++ seg ++ inner.drop (i.toNat * d.sz + j + seg.length), ⟨?_, .inr ⟨g, cap, ae, by rw [List.length_set, Z], hb, h3, by rw [List.length_set, ← Z]; exact ai, aq, by rw [h4, av], ?_⟩⟩, ?_⟩,
    ⟨s1,s2,s3,by rw[s4];exact Nat.le_refl _,fun k _ hk=>I k (fun he=>hk (by rw[he]))⟩⟩
  · rw[List.length_set]
    simp only[List.length_append,List.length_take,List.length_drop];rw[hr.1]at X⊢;omega
  · rw[List.length_set,←Z]
    apply List.ext_getElem?;intro q;rw[List.getElem?_take,h5];rw[ze U.toList seg (i.toNat*d.sz+j) (by rw[Array.length_toList];omega) q,ze inner seg (i.toNat*d.sz+j) (by omega) q];have ag:∀q,q<n*d.sz→U.toList[q]?=inner[q]?:=by
      intro q G;rw[←ht,List.getElem?_take,if_pos (by rw[←Z];exact G)]
    by_cases G:q<n*d.sz
    · rw[if_pos G,ag q G]
    · rw[if_neg G,if_neg (by omega),if_neg (by omega),List.getElem?_eq_none (by omega)]
  · refine⟨?_,fun m p Y=>?_⟩
    · rw[List.length_set]
      simp only[List.length_append,List.length_take,List.length_drop];rw[hr.1]at X⊢;omega
    · have an:m<xs.length:=by
        have:=(List.getElem?_eq_some_iff.1 Y).1;rwa[List.length_set]at this
      have ap:m*d.sz+d.sz≤inner.length:=by rw[hr.1,←Nat.succ_mul];exact Nat.mul_le_mul_right _ an
      have aa:some g=(Value.slice (some ⟨g,0,none⟩) n cap).ownBlock:=by simp[Value.ownBlock]
      by_cases ab:m=i.toNat
      · subst ab
        rw[List.getElem?_set_self (by omega)]at Y;injection Y with Y;subst Y;have D:((inner.take (i.toNat*d.sz+j)++seg++inner.drop (i.toNat*d.sz+j+seg.length)).drop (i.toNat*d.sz)).take d.sz=c.take j++seg++c.drop (j+seg.length):=by
          apply List.ext_getElem?;intro q;rw[List.getElem?_take,List.getElem?_drop,ze inner seg _ (by omega),ze c seg j (by omega) q];by_cases G:q<d.sz
          · rw[if_pos G,ah q G]
            by_cases ak:q<j
            · rw[if_pos (by omega),if_pos ak]
            · rw[if_neg (by omega),if_neg ak]
              by_cases af:q<j+seg.length
              · rw[if_pos (by omega),if_pos af]
                congr 1;omega
              · rw[if_neg (by omega),if_neg af]
          · rw[if_neg G,if_neg (by omega),if_neg (by omega),List.getElem?_eq_none (by omega)]
        rw[D];refine d.rY (fun k hk=>?_) (d.sZ (w1:=W.setCells g (i.toNat*d.sz+j) seg) (fun k hk=>I k (L k hk).2) hM);exact⟨(L k hk).1,fun he=>(L k hk).2 (by rw[←aa]at he;injection he)⟩
      · rw[List.getElem?_set_ne (by omega)]at Y
        have am:=hr.2 m p Y;have D:((inner.take (i.toNat*d.sz+j)++seg++inner.drop (i.toNat*d.sz+j+seg.length)).drop (m*d.sz)).take d.sz=(inner.drop (m*d.sz)).take d.sz:=by
          apply List.ext_getElem?;intro q;rw[List.getElem?_take,List.getElem?_take,List.getElem?_drop,List.getElem?_drop,ze inner seg _ (by omega)];by_cases G:q<d.sz
          · rw[if_pos G,if_pos G]
            rcases Nat.lt_or_gt_of_ne ab with hlt|hgt
            · have:m*d.sz+d.sz≤i.toNat*d.sz:=by rw[←Nat.succ_mul];exact Nat.mul_le_mul_right _ hlt
              rw[if_pos (by omega)]
            · have:i.toNat*d.sz+d.sz≤m*d.sz:=by rw[←Nat.succ_mul];exact Nat.mul_le_mul_right _ hgt
              rw[if_neg (by omega),if_neg (by omega)]
          · rw[if_neg G,if_neg G]
        rw[D];refine d.sZ (fun k hk=>I k (fun he=>hk.2 (by rw[he];exact aa))) am
end
end Kd
namespace Kd
section
variable {α:Type} {F:Kd α→Kd α} {sz:Nat} {E:List Nat} {hs:∀n,(upto F sz E n).sz=sz} {hE:∀n q,q∈(upto F sz E n).E→q∈E}
end
end Kd
namespace Kd
theorem Eb{α:Type}{R:α→List Value→Prop}{size:Nat}{ps I:List α}{cs ds:List Value}(h:qC R size ps cs)(L:qC R size I ds):qC R size (ps++I) (cs++ds):=by
  refine⟨by rw[List.length_append,List.length_append,h.1,L.1,Nat.add_mul],fun j p G=>?_⟩;rcases Nat.lt_or_ge j ps.length with hlt|hge
  · rw[List.getElem?_append_left hlt]at G
    (have D:j*size+size≤cs.length:=by rw[h.1,←Nat.succ_mul];exact Nat.mul_le_mul_right _ hlt);rw[List.drop_append_of_le_length (by omega),List.take_append_of_le_length (by rw[List.length_drop];omega)];exact h.2 j p G
  · rw[List.getElem?_append_right hge]at G
    have h2:=L.2 (j-ps.length) p G;have D:ps.length*size≤j*size:=Nat.mul_le_mul_right _ hge;rw[List.drop_append,List.drop_eq_nil_of_le (by rw[h.1];exact D),List.nil_append,h.1,←Nat.sub_mul];exact h2
section
variable {P:Program} {ops:Array Oper} {rest:List Oper} {o:Oper} {a:Act} {Q:Exit→Act→World→Prop} {α:Type}
theorem yG (d:Kd α) {Rr:α→List Value→Prop} {w0 W:World} (base:Nat) (aq:o.guard=none) (s x:Operand) (t e:TypeId) (z:Value) (G:Nat)
    (ho:o.op= .call {callee:= .builtin .append,args:=#[s,x],argTypes:=#[t,t]})
    (ht:P.underlying t=some (.slice e)) (af:(P.info? e).map (fun i=>(i.zero,i.size,i.bytes))=some (some z,d.sz,G)) (hz:z.cells.size=d.sz) (ae:0<d.sz) (al:0<G)
    (v:Value) (xs ys:List α) (A:Option Addr) (m c:Nat) (ok okp:Nat→Prop) (hs:a.eval s=v) (hx:a.eval x= .slice A m c)
    (HO:d.R e W base ok v xs) (HR:sV Rr d.sz W A m ys) (ak:∀x cs,Rr x cs→d.M W base okp x cs) (ai:∀k,okp k→ok k∧some k≠v.ownBlock) (Z:∀k,W.heap.size≤k→ok k)
    (HB:Below base w0 W) (U:base≤W.heap.size) (hl:(xs.length+m)*G≤140737488355328)
    (h:∀v1 w1,d.R e w1 base ok v1 (xs++ys)→Below base w0 w1→W.grownBy w1 v.ownBlock→(v1.ownBlock=v.ownBlock∨∃b,v1.ownBlock=some b∧W.heap.size≤b)→wpList P ops Q rest (a.put o.dst v1) w1):
    wpList P ops Q (o::rest) a W:=by
  obtain⟨i0,hi,aj⟩:=Option.map_eq_some_iff.1 af;simp only[Prod.mk.injEq]at aj;obtain⟨ao,an,ar⟩:=aj;have hm:ys.length=m:=HR.1;have aw:xs.length+m≤140737488355328:=Nat.le_trans (Nat.le_mul_of_pos_right _ al) hl;obtain⟨ah,inner,L,hr⟩:=HO;have Y:∃v1 w1,(Builtin.append_ #[t,t] o.type #[v, .slice A m c]).run P W= .ok v1 w1∧d.R e w1 base ok v1 (xs++ys)∧W.grownBy w1 v.ownBlock∧(v1.ownBlock=v.ownBlock∨∃b,v1.ownBlock=some b∧W.heap.size≤b):=by
    rcases A with _|ad
    · have h0:m=0:=by
        rcases Nat.eq_zero_or_pos m with h0|h0
        · exact h0
        · obtain⟨ad,h,_⟩:=HR.2.2 h0
          cases h
      subst h0
      obtain rfl:ys=[]:=List.eq_nil_of_length_eq_zero hm
      refine⟨v,W,?_,by rw[List.append_nil];exact⟨ah,inner,L,hr⟩,World.grownBy.refl W _, .inl rfl⟩
      rcases L.2 with⟨rfl,_⟩|⟨g,_,_,rfl,_,_,ab,_⟩
      · simp[Builtin.append_,run_underlying ht,sizeOf,typeInfo,hi,Builtin.lenOf,Builtin.firstCells]
      · simp[Builtin.append_,run_underlying ht,sizeOf,typeInfo,hi,Builtin.lenOf,Builtin.firstCells,ab,storeCells]
    · obtain⟨I,av,ab⟩:=sV.K4 HR
      have aa:qC (d.M W base okp) d.sz ys I:=av.zf (fun p c hp=>ak p c hp);have ag:∀u∈I,u.oneCell'=true:=by
        intro u hu;obtain⟨q,hq,rfl⟩:=List.mem_iff_getElem.1 hu;have am:q/d.sz<ys.length:=by
          rw[Nat.div_lt_iff_lt_mul ae];rw[←aa.1];exact hq
        have hc:=aa.2 (q/d.sz) _ (List.getElem?_eq_getElem am);refine d.vk (d.sS hc) _ ?_;rw[List.mem_iff_getElem?];refine⟨q%d.sz,?_⟩;rw[List.getElem?_take,if_pos (Nat.mod_lt _ ae),List.getElem?_drop,Nat.mul_comm,Nat.div_add_mod,List.getElem?_eq_getElem hq]
      obtain⟨v1,w1,Y,h2,hg,_,D⟩:=run_append_own_at (P:=P) W base t o.type e i0 z d.sz G ht hi ao an ar hz ae v xs.length inner L ad m c I (by rw[aa.1,hm]) ab ag (by simp only[maxLen];omega) hl U;have X:v1.ownBlock=v.ownBlock∨∃b,v1.ownBlock=some b∧W.heap.size≤b:=by
        rcases D with D|D
        · exact .inl D
        · exact .inr ⟨_,D,Nat.le_refl _⟩
      have au:∀k,some k≠v.ownBlock→k<W.heap.size→some k≠v1.ownBlock:=by
        intro k hk ax;rcases X with D|⟨b,hb,hle⟩
        · rw[D];exact hk
        · rw[hb]
          intro he;injection he with he;omega
      have step:∀{q:α} {c:List Value} {o:Nat→Prop},d.M W base o q c→(∀k,o k→ok k∧some k≠v.ownBlock)→d.M w1 base (fun k=>ok k∧some k≠v1.ownBlock) q c:=by
        intro q c o hq ho;have h1:=d.sZ (w1:=w1) (fun k hk=>hg.block k hk.2.2.1 (ho k hk.1).2) (d.sF hq);exact d.rY (fun k hk=>⟨(ho k hk.1).1,au k (ho k hk.1).2 hk.2.2.1⟩) h1
      refine⟨v1,w1,Y,⟨fun k hk=>?_,inner++I,by rw[List.length_append,hm];exact h2,Eb (hr.zf (fun _ _ hq=>step hq (fun _ hk=>hk))) (aa.zf (fun _ _ hq=>step hq ai))⟩,hg,X⟩;rcases X with D|⟨b,hb,hle⟩
      · exact ah k (D▸hk)
      · rw[hb]at hk
        injection hk with hk;exact Z k (by omega)
  obtain⟨v1,w1,ap,h1,hg,D⟩:=Y;refine wpList_plain aq fun K hK=>?_;unfold Oper.wp execOp;simp only[ho,resolve,invoke,builtin,Sem.run_bind,Sem.run_pure,Result.andThen_ok,List.map_toArray,List.map_cons,List.map_nil,hs,hx,ap];exact hK _ _ (h v1 w1 h1 (HB.grown hg U (xZ L)) hg D)
end
end Kd
namespace Kd
section
variable {P:Program} {ops:Array Oper} {rest:List Oper} {o:Oper} {a:Act} {Q:Exit→Act→World→Prop} {α:Type}
end
end Kd
theorem add_add(a:Addr)(i j:Nat):(a.add i).add j=a.add (i+j):=by
  unfold Addr.add;by_cases h1:i=0<;>by_cases h2:j=0<;>simp[h1,h2,Nat.add_assoc]
namespace Kd
section
variable {α:Type} {k:Kd α} {w:World} {A:Option Addr} {xs:List α} {m c:Nat}
theorem K9(h:k.C w A xs.length xs)(Y:m≤xs.length)(X:xs.length≤c):k.C w (if c=m then A else A.map (·.add (m*k.sz))) (xs.drop m).length (xs.drop m):=by
  have hl:(xs.drop m).length=xs.length-m:=List.length_drop;refine⟨rfl,by rw[hl];have:=h.2.1;omega,fun L=>?_⟩;rw[hl]at L;obtain⟨ad,rfl,D⟩:=h.2.2 (by omega);rw[if_neg (by omega)];refine⟨ad.add (m*k.sz),rfl,fun j p G=>?_⟩;rw[List.getElem?_drop]at G;obtain⟨cs,h1,h2,I⟩:=D (m+j) p G;refine⟨cs,h1,h2,fun i u U=>?_⟩;rw[add_add,show m*k.sz+(j*k.sz+i)=(m+j)*k.sz+i by rw[Nat.add_mul];omega];exact I i u U
end
end Kd
section
variable {P:Program}
end
theorem kN{w W:World}(h:Below w.heap.size w W):w.heap.size≤W.heap.size:=h.size
theorem kg{w W D:World}(h:Below w.heap.size w W)(k:Below W.heap.size W D):Below w.heap.size w D:=xA h h.size k
theorem sw.nil(W:World)(k:IntKind):sw W k none ([]:List Int).length []:=⟨rfl,by simp,fun h=>absurd h (Nat.lt_irrefl 0)⟩
theorem sw.drewN{W:World}{k:IntKind}{A:Option Addr}{n:Nat}{xs:List Int}(h:sw W k A n xs)(m:Nat):sw (W.drewN m) k A n xs:=h
theorem kr{w W:World}{g j:Nat}{v:Value}(h:Below w.heap.size w W)(D:w.heap.size≤g):Below w.heap.size w (W.setCell ⟨g,j,none⟩ v):=h.setCell D _
theorem BH{w W:World}{g:Nat}(h:sK w W g none){a:Addr}{v:Value}(G:w.cell? a=some v)(D:a.block≠g):W.cell? a=some v:=by
  have:=h.2 a.block (World.block_lt_of_cell? w a G) D (by simp);simpa[World.cell?,this]using G
theorem add_block(a:Addr)(i:Nat):(a.add i).block=a.block:=by unfold Addr.add;split<;>rfl
theorem sD.nil{α:Type}(enc:α→Value)(d:α)(W:World):sD enc d W none ([]:List α).length []:=⟨rfl,by simp,fun h=>absurd h (Nat.lt_irrefl 0)⟩
theorem sD.drewN{α:Type}{enc:α→Value}{d:α}{W:World}{A:Option Addr}{n:Nat}{xs:List α}(h:sD enc d W A n xs)(m:Nat):sD enc d (W.drewN m) A n xs:=h
theorem sw.keep{w W:World}{k:IntKind}{A:Option Addr}{n g:Nat}{xs:List Int}(h:sw w k A n xs)(hk:sK w W g none)(I:∀ad,A=some ad→0<n→ad.block≠g):sw W k A n xs:=
  ⟨h.1,h.2.1,fun D=>by
    obtain⟨ad,e,G⟩:=h.2.2 D
    exact⟨ad,e,fun j L=>BH hk (G j L) (by rw[add_block];exact I ad e D)⟩⟩
theorem sD.keep{α:Type}{enc:α→Value}{d:α}{w W:World}{A:Option Addr}{n g:Nat}{xs:List α}(h:sD enc d w A n xs)(hk:sK w W g none)(I:∀ad,A=some ad→0<n→ad.block≠g):sD enc d W A n xs:=
  ⟨h.1,h.2.1,fun D=>by
    obtain⟨ad,e,G⟩:=h.2.2 D
    exact⟨ad,e,fun j L=>BH hk (G j L) (by rw[add_block];exact I ad e D)⟩⟩
theorem cell_far{W:World}{p a:Addr}(h:a.block≠p.block)(u:Value):(W.setCell p u).cell? a=W.cell? a:=by
  have:=Below.heap_setCell W p u a.block h;simp[World.cell?,this]
theorem eY{w:World}{g:Nat}{t:TypeId}{cs D:Array Value}(h:w.heap[g]?=some (.cells cs t (0,0)))(i:Nat)(u:Value)(e:cs.setIfInBounds i u=D):(w.setCell ⟨g,i,none⟩ u).heap[g]?=some (.cells D t (0,0)):=e▸FT h i u
theorem eZ{base:Nat}{w W:World}(h:Below base w W):Below base w W.drew:=h.drew
namespace Kd
section
variable {α β:Type} {d:Kd α} {d':Kd β} {e e' base base' n:Nat} {ok ok':Nat→Prop} {w W w1 W1:World} {v u:Value} {xs:List α} {ys:List β} {A:Option Addr} {c:Nat}
end
section
variable {α:Type} {enc:α→Value} {h1:∀x,(enc x).oneCell'=true} {w W:World} {A:Option Addr} {n g:Nat} {xs:List α}
end
end Kd
namespace Kd
section
variable {α:Type} {d:Kd α} {e base g:Nat} {ok:Nat→Prop} {w w1:World} {v:Value} {xs:List α} {o:Obj}
end
end Kd
section
variable {P:Program} {ops:Array Oper} {rest:List Oper} {o:Oper} {a:Act} {Q:Exit→Act→World→Prop}
theorem Gu {W:World} (G:o.guard=none) {N:Tmp} (I:o.dst=some N) {cs:Array Value} {t:TypeId}
    (D:(execOp a.eval o).run P W= .ok (.value (.pointer (some ⟨W.heap.size,0,none⟩))) (W.alloc (.cells cs t (0,0))))
    (h:∀g,g=W.heap.size→∀w1,w1.heap[g]?=some (.cells cs t (0,0))→Below W.heap.size W w1→wpList P ops Q rest (a.put o.dst (.pointer (some ⟨g,0,none⟩))) w1):wpList P ops Q (o::rest) a W:=
  Kd.BP G D (h _ rfl _ (qF W _) (eX (Below.refl _ _) _))
end
namespace Kd
section
variable {α:Type} {enc:α→Value} {h1:∀x,(enc x).oneCell'=true} {e base g n cap:Nat} {ok:Nat→Prop} {W:World} {xs:List α}
end
end Kd
section
variable {P:Program} {ops:Array Oper} {rest:List Oper} {o:Oper} {a:Act} {Q:Exit→Act→World→Prop}
theorem zZ {W w1:World} (G:o.guard=none) {t:TypeId} {p:Tmp} {v:Operand} (L:o.op= .store t (.tmp p) v) (U:o.dst=none)
    (D:(execOp a.eval o).run P W= .ok .skip w1) (h:∀w',w'=w1→wpList P ops Q rest a w'):wpList P ops Q (o::rest) a W:=by
  refine wpList_plain G fun K I=>?_;unfold Oper.wp;rw[D];show K (a.put o.dst undef) w1;rw[U];exact I _ _ (h _ rfl)
end
namespace Kd
section
variable {α:Type} {enc:α→Value} {h1:∀x,(enc x).oneCell'=true} {e base g n cap:Nat} {ok:Nat→Prop} {W:World} {xs:List α}
end
end Kd
section
variable {P:Program} {ops:Array Oper} {rest:List Oper} {o:Oper} {a:Act} {Q:Exit→Act→World→Prop} {W:World}
theorem vJ{N:Tmp}(D:o.dst=some N)(h:wpList P ops Q (o::rest) a W):wpList P ops Q (o::rest) a W:=h
theorem Ak{t:TypeId}{p:Tmp}{v:Operand}(D:o.op= .store t (.tmp p) v)(h:wpList P ops Q (o::rest) a W):wpList P ops Q (o::rest) a W:=h
end
section
variable {P:Program} {ops:Array Oper} {o:Oper} {a:Act} {Q:Exit→Act→World→Prop} {Kc:Act→World→Prop}
theorem EW{W w1:World}{v:Value}(G:Region.wanted o (yielded ops a.tmps)=true)(D:(execOp a.eval o).run P W= .ok (.value v) w1)(h:Kc (a.put o.dst v) w1):if Region.wanted o (yielded ops a.tmps)=true then Oper.wp P o a W Kc Q else Kc (a.put o.dst undef) W:=by
  rw[if_pos G];unfold Oper.wp;rw[D];exact h
theorem Bq {W:World} (G:Region.wanted o (yielded ops a.tmps)=true) {N:Tmp} (I:o.dst=some N) {cs:Array Value} {t:TypeId}
    (D:(execOp a.eval o).run P W= .ok (.value (.pointer (some ⟨W.heap.size,0,none⟩))) (W.alloc (.cells cs t (0,0))))
    (h:∀g,g=W.heap.size→∀w1,w1.heap[g]?=some (.cells cs t (0,0))→Below W.heap.size W w1→Kc (a.put o.dst (.pointer (some ⟨g,0,none⟩))) w1):if Region.wanted o (yielded ops a.tmps)=true then Oper.wp P o a W Kc Q else Kc (a.put o.dst undef) W:=
  EW G D (h _ rfl _ (qF W _) (eX (Below.refl _ _) _))
namespace Kd
variable {α:Type}
end Kd
end
section
variable {P:Program} {tmps:Array Value} {w:World}
end
namespace Kd
section
variable {P:Program} {α:Type}
end
section
variable {P:Program} {ops:Array Oper} {rest:List Oper} {o:Oper} {a:Act} {Q:Exit→Act→World→Prop} {Kc:Act→World→Prop} {α:Type}
end
end Kd
end Go.Proofs.PW
namespace Go.Proofs.PW
open RowKit
class On(v:World)(w:outParam World):Prop where
  ext:Below w.heap.size w v
instance(priority:=10) On.here(w:World):On w w:=⟨Below.refl _ _⟩
instance On.alloc(v w:World)(o:Obj)[h:On v w]:On (v.alloc o) w:=⟨eX h.ext o⟩
instance On.drewN(v w:World)(n:Nat)[h:On v w]:On (v.drewN n) w:=⟨eP h.ext n⟩
instance On.drew(v w:World)[h:On v w]:On v.drew w:=⟨xH h.ext⟩
theorem obk{v w:World}{g:Nat}{o:Obj}[k:On v w](h:w.heap[g]?=some o):v.heap[g]?=some o:=iW h k.ext
theorem rok{α:Type}{d:Kd α}{e:Nat}{v w:World}{base:Nat}{ok:Nat→Prop}{x:Value}{xs:List α}[k:On v w](h:d.R e w base ok x xs):d.R e v base ok x xs:=Kd.qJ h k.ext
class Onb(s v:World)(u:outParam World):Prop where
  ext:Below s.heap.size s u→Below s.heap.size s v
instance(priority:=10) Onb.here(s w:World):Onb s w w:=⟨id⟩
instance Onb.alloc(s v w:World)(o:Obj)[h:Onb s v w]:Onb s (v.alloc o) w:=⟨fun b=>eX (h.ext b) o⟩
instance Onb.drewN(s v w:World)(n:Nat)[h:Onb s v w]:Onb s (v.drewN n) w:=⟨fun b=>eP (h.ext b) n⟩
instance Onb.drew(s v w:World)[h:Onb s v w]:Onb s v.drew w:=⟨fun b=>eZ (h.ext b)⟩
instance Onb.set(s v w:World)(g j:Nat)(u:Value)[h:Onb s v w][k:eD (s.heap.size≤g)]:Onb s (v.setCell ⟨g,j,none⟩ u) w:=⟨fun b=>kr (h.ext b) k.out⟩
theorem bok{s v u:World}[k:Onb s v u](h:Below s.heap.size s u):Below s.heap.size s v:=k.ext h
class Onf(g:Nat)(v:World)(w:outParam World):Prop where
  ext:∀(t:TypeId) (cs:Array Value),w.heap[g]?=some (.cells cs t (0,0))→v.heap[g]?=some (.cells cs t (0,0))
instance(priority:=10) Onf.here(g:Nat)(w:World):Onf g w w:=⟨fun _ _ h=>h⟩
instance Onf.alloc(g:Nat)(v w:World)(o:Obj)[h:Onf g v w]:Onf g (v.alloc o) w:=⟨fun t cs b=>sG (h.ext t cs b) o⟩
instance Onf.drewN(g:Nat)(v w:World)(n:Nat)[h:Onf g v w]:Onf g (v.drewN n) w:=⟨fun t cs b=>zJ (h.ext t cs b) n⟩
instance Onf.drew(g:Nat)(v w:World)[h:Onf g v w]:Onf g v.drew w:=⟨fun t cs b=>vK (h.ext t cs b)⟩
instance Onf.set(g:Nat)(v w:World)(D j:Nat)(u:Value)[h:Onf g v w][k:eD (g≠D)]:Onf g (v.setCell ⟨D,j,none⟩ u) w:=⟨fun t cs b=>iw (h.ext t cs b) k.out u⟩
theorem obf{v w:World}{g:Nat}{t:TypeId}{cs:Array Value}[k:Onf g v w](h:w.heap[g]?=some (.cells cs t (0,0))):v.heap[g]?=some (.cells cs t (0,0)):=k.ext t cs h
theorem mk0{p:Prop}(h:p):eD p:=⟨h⟩
theorem kR{α:Type}{d:Kd α}{e:Nat}{w:World}{base:Nat}{ok:Nat→Prop}{x:Value}{xs:List α}{g:Nat}(i:Nat)(h:d.R e w base (fun k=>ok k∧k≠g) x xs)(u:Value):d.R e (w.setCell ⟨g,i,none⟩ u) base (fun k=>ok k∧k≠g) x xs:=Kd.uK (p:=⟨g,i,none⟩) h (fun _ hk=>hk.2) u
theorem bst{s v u z:World}[Onb s v u](h:Below s.heap.size s u)(k:Below v.heap.size v z):Below s.heap.size s z:=kg (bok h) k
theorem vF{w:World}{g D:Nat}{t:TypeId}{cs:Array Value}(h:w.heap[g]?=some (.cells cs t (0,0)))(G:g≠D){j:Nat}{u:Value}:(w.setCell ⟨D,j,none⟩ u).heap[g]?=some (.cells cs t (0,0)):=iw h G u
theorem nlt{v w:World}{g D:Nat}{o:Obj}[On v w](G:D=v.heap.size)(h:w.heap[g]?=some o):g≠D:=G▸Nat.ne_of_lt (rX (obk (v:=v) h))
theorem ngt{v w:World}{g D:Nat}{o:Obj}[On v w](G:D=v.heap.size)(h:w.heap[g]?=some o):D≠g:=G▸Nat.ne_of_gt (rX (obk (v:=v) h))
theorem gle{s v u:World}{g:Nat}[Onb s v u](D:g=v.heap.size)(h:Below s.heap.size s u):s.heap.size≤g:=D▸kN (bok (v:=v) h)
theorem rG{w:World}{g:Nat}{t:TypeId}{D G:Value}(h:w.heap[g]?=some (.cells #[D,G] t (0,0))):w.cell? ⟨g,0,none⟩=some D∧w.cell? ⟨g,1,none⟩=some G∧w.frozen? ⟨g,0,none⟩=false∧w.frozen? ⟨g,1,none⟩=false:=⟨(iF h 0).trans rfl,(iF h 1).trans rfl,iP h 0,iP h 1⟩
theorem qc{w:World}{g:Nat}{t:TypeId}{D I G:Value}(h:w.heap[g]?=some (.cells #[D,I,G] t (0,0))):w.cell? ⟨g,0,none⟩=some D∧w.cell? ⟨g,1,none⟩=some I∧w.cell? ⟨g,2,none⟩=some G∧w.frozen? ⟨g,0,none⟩=false∧w.frozen? ⟨g,1,none⟩=false∧w.frozen? ⟨g,2,none⟩=false:=⟨(iF h 0).trans rfl,(iF h 1).trans rfl,(iF h 2).trans rfl,iP h 0,iP h 1,iP h 2⟩
theorem zo{w:World}{g:Nat}{t:TypeId}{G L I D:Value}(h:w.heap[g]?=some (.cells #[G,L,I,D] t (0,0))):w.cell? ⟨g,0,none⟩=some G∧w.cell? ⟨g,1,none⟩=some L∧w.cell? ⟨g,2,none⟩=some I∧w.cell? ⟨g,3,none⟩=some D∧w.frozen? ⟨g,0,none⟩=false∧w.frozen? ⟨g,1,none⟩=false∧w.frozen? ⟨g,2,none⟩=false∧w.frozen? ⟨g,3,none⟩=false:=⟨(iF h 0).trans rfl,(iF h 1).trans rfl,(iF h 2).trans rfl,(iF h 3).trans rfl,iP h 0,iP h 1,iP h 2,iP h 3⟩
theorem wm{w:World}{g:Nat}{t:TypeId}{G L I D U:Value}(h:w.heap[g]?=some (.cells #[G,L,I,D,U] t (0,0))):w.cell? ⟨g,0,none⟩=some G∧w.cell? ⟨g,1,none⟩=some L∧w.cell? ⟨g,2,none⟩=some I∧w.cell? ⟨g,3,none⟩=some D∧w.cell? ⟨g,4,none⟩=some U∧w.frozen? ⟨g,0,none⟩=false∧w.frozen? ⟨g,1,none⟩=false∧w.frozen? ⟨g,2,none⟩=false∧w.frozen? ⟨g,3,none⟩=false∧w.frozen? ⟨g,4,none⟩=false:=⟨(iF h 0).trans rfl,(iF h 1).trans rfl,(iF h 2).trans rfl,(iF h 3).trans rfl,(iF h 4).trans rfl,iP h 0,iP h 1,iP h 2,iP h 3,iP h 4⟩
end Go.Proofs.PW
namespace Go.Proofs.PL
section
variable {P:Program} {ops:Array Oper} {Q:Exit→Act→World→Prop} {md:Region.Mode} {S:World→Prop} {ds:List Nat}
def Region.vM(md:Region.Mode)(ops:Array Oper)(i:Nat):Nat→Nat→Bool
  |0,_=>false
  |fuel+1,d=>match ops[d]? with
    |some o=>o.after.any fun e=>Region.binds md e&&(e.on==i||Region.vM md ops i fuel e.on)
    |none=>false
def Region.y7(md:Region.Mode)(ops:Array Oper)(D:Array Bool):Bool:=
  (List.range ops.size).all fun j=> !D.getD j false||match ops[j]? with
    |some o=>o.after.all fun e=> !Region.binds md e||D.getD e.on false
    |none=>true
def Region.lastB(md:Region.Mode)(ops:Array Oper)(D:Array Bool)(ds:List Nat)(i:Nat):Bool:=
  ds.all fun d=>D.getD d true||Region.vM md ops i ops.size d
def tX(md:Region.Mode)(ops:Array Oper)(D:Array Bool):Prop:=
  ∀j G,ops[j]?=some G→D.getD j false=true→∀e∈G.after,Region.binds md e=true→D.getD e.on false=true
theorem Region.Ca{D:Array Bool}(h:Region.y7 md ops D=true):tX md ops D:=by
  intro j X I hl e L U;have G:j<ops.size:=(Array.getElem?_eq_some_iff.1 I).1;have h1:=List.all_eq_true.1 h j (List.mem_range.2 G);simp only[hl,I,Bool.not_true,Bool.false_or]at h1;have h2:=Array.all_eq_true_iff_forall_mem.1 h1 e L;simpa[U]using h2
theorem tX.set{D:Array Bool}{i:Nat}(h:tX md ops D)(hi:i∈Region.ready md ops D):tX md ops (D.setIfInBounds i true):=by
  obtain⟨_,oi,L,I⟩:=mem_ready.1 hi;intro j U X hl e Y Z;by_cases G:i=j
  · subst G
    have:U=oi:=Option.some.inj (X.symm.trans L);subst this;exact getD_set_true (I e Y Z)
  · rw[getD_set_ne false G]at hl
    exact getD_set_true (h j U X hl e Y Z)
theorem Region.zi{D:Array Bool}{i:Nat}(I:tX md ops D):∀(fuel d:Nat),Region.vM md ops i fuel d=true→D.getD d false=true→D.getD i false=true
  |0,_,h,_=>by simp[Region.vM]at h
  |fuel+1,d,h,hl=>by
    unfold Region.vM at h
    cases ho:ops[d]? with
    |none=>rw[ho]at h;simp at h
    |some o=>
      rw[ho]at h;obtain⟨e,L,h1⟩:=Array.any_eq_true'.1 h;simp only[Bool.and_eq_true,Bool.or_eq_true,beq_iff_eq]at h1;have G:=I d o ho hl e L h1.1;rcases h1.2 with h2|h2
      · rw[←h2];exact G
      · exact Region.zi I fuel e.on h2 G
theorem Region.Ad{D:Array Bool}{i d fuel:Nat}(X:tX md ops D)(U:Region.vM md ops i fuel d=true)(G:D.getD i true=false):d∉Region.ready md ops D:=by
  intro hd;obtain⟨_,o,Y,L⟩:=mem_ready.1 hd;have hi:D.getD i false=true:=by
    cases fuel with
    |zero=>simp[Region.vM]at U
    |succ n=>
      unfold Region.vM at U;rw[Y]at U;obtain⟨e,Z,h1⟩:=Array.any_eq_true'.1 U;simp only[Bool.and_eq_true,Bool.or_eq_true,beq_iff_eq]at h1;have I:=L e Z h1.1;rcases h1.2 with h2|h2
      · rw[←h2];exact I
      · exact Region.zi X n e.on h2 I
  rcases Nat.lt_or_ge i D.size with h'|h'
  · simp[h']at G hi
    rw[G]at hi;cases hi
  · simp[Array.getElem?_eq_none h']at G
def kK(P:Program)(md:Region.Mode)(ops:Array Oper)(Q:Exit→Act→World→Prop)(S:World→Prop)(ds:List Nat):Nat→Array Bool→Act→World→Prop
  |0,D,a,w=>Region.ready md ops D=[]∧Q .normal a w
  |fuel+1,D,a,w=>
    (Region.ready md ops D=[]→Q .normal a w)∧
    ∀i∈Region.ready md ops D,wpOp P ops Q i (fun a' w'=>(i∉ds→S w→S w')∧kK P md ops Q S ds fuel (D.setIfInBounds i true) a' w') a w
theorem yJ:∀(fuel:Nat) (listed:Array Bool) (a:Act) (w:World),kK P md ops Q S ds fuel listed a w→wpAny P md ops Q fuel listed a w
  |0,_,_,_,h=>h
  |fuel+1,_,_,_,h=>⟨h.1,fun i hi=>wpOp_mono (fun a' w' D=>yJ fuel _ a' w' D.2) (h.2 i hi)⟩
theorem Ab {i:Nat} {oi:Oper} {v:Value} (hi:ops[i]?=some oi) (aa:∀(j:Nat) (o:Oper) cs b,ops[j]?=some o→o.op≠ .select cs b)
    (hQ:∀c a w,Q (.panic c) (a.put oi.dst v) w→Q (.panic c) a w) (n:Nat):
    ∀(fuel:Nat) (D:Array Bool) (a:Act) (w:World),
      (∀j oj,ops[j]?=some oj→j≠i→D.getD j true=false→(∀e∈oj.after,Region.binds md e=true→e.on≠i)→oi.apart ops oj=true)→
      tX md ops D→(∀d∈ds,D.getD d true=false→Region.vM md ops i n d=true)→
      i∈Region.ready md ops D→YieldsIf P ops S oi v a→S w→
      kK P md ops Q S ds fuel (D.setIfInBounds i true) (a.put oi.dst v) w→kK P md ops Q S ds (fuel+1) D a w:=by
  intro fuel
  induction fuel with
  |zero=>
    intro D a w _ _ _ hr hy hS H;refine⟨fun h=>(by rw[h]at hr;cases hr),fun j hj=>?_⟩;by_cases G:j=i
    · subst G;exact hy.wpOp hi hS ⟨fun _ h=>h,H⟩
    · have:=ready_mono hj G
      rw[H.1]at this;cases this
  |succ fuel ih=>
    intro D a w U hc hd hr hy hS H;refine⟨fun h=>(by rw[h]at hr;cases hr),fun j hj=>?_⟩;by_cases G:j=i
    · subst G;exact hy.wpOp hi hS ⟨fun _ h=>h,H⟩
    · have h1:=H.2 j (ready_mono hj G)
      obtain⟨I,oj,ab,af⟩:=mem_ready.1 hj;have Y:=(mem_ready.1 hr).1
      have ae:∀e∈oj.after,Region.binds md e=true→e.on≠i:=fun e he hb ag=>by
        have h1:=af e he hb
        rw[ag]at h1
        rcases Nat.lt_or_ge i D.size with h'|h'
        · simp[h']at Y h1;rw[Y]at h1;cases h1
        · simp[Array.getElem?_eq_none h']at h1
      have ai:j∉ds:=fun hm=>Region.Ad hc (hd j hm I) Y hj;have h2:=wpOp_putIf ab (U j oj ab G I ae) (fun cs b=>aa i oi cs b hi) (fun cs b=>aa j oj cs b ab) hQ hy h1
      have Z:∀k ok,ops[k]?=some ok→k≠i→(D.setIfInBounds j true).getD k true=false→
          (∀e∈ok.after,Region.binds md e=true→e.on≠i)→oi.apart ops ok=true:=fun k ok hk ah X ak=>by
        refine U k ok hk ah ?_ ak
        by_cases L:j=k
        · subst L;exact I
        · rw[getD_set_ne true L]at X;exact X
      have aj:∀d∈ds,(D.setIfInBounds j true).getD d true=false→Region.vM md ops i n d=true:=fun d hm X=>by
        refine hd d hm ?_
        by_cases L:j=d
        · subst L;exact I
        · rw[getD_set_ne true L]at X;exact X
      refine wpOp_mono (fun a' w' h3=>⟨h3.2.1,ih (D.setIfInBounds j true) a' w' Z (hc.set hj) aj (ready_mono hr (Ne.symm G)) h3.1 (h3.2.1 ai hS) ?_⟩) h2;rw[Array.setIfInBounds_comm _ _ G];exact h3.2.2
theorem BG {i:Nat} {oi:Oper} {v:Value} (hi:ops[i]?=some oi) (X:∀(j:Nat) (o:Oper) cs b,ops[j]?=some o→o.op≠ .select cs b)
    (hQ:∀c a w,Q (.panic c) (a.put oi.dst v) w→Q (.panic c) a w):
    ∀(fuel:Nat) (D:Array Bool) (a:Act) (w:World),
      (∀j oj,ops[j]?=some oj→j≠i→D.getD j true=false→(∀e∈oj.after,Region.binds md e=true→e.on≠i)→oi.apart ops oj=true)→
      i∈Region.ready md ops D→Yields P ops oi v a→
      kK P md ops Q S ds fuel (D.setIfInBounds i true) (a.put oi.dst v) w→kK P md ops Q S ds (fuel+1) D a w:=by
  intro fuel
  induction fuel with
  |zero=>
    intro D a w _ Z hy H;refine⟨fun h=>(by rw[h]at Z;cases Z),fun j hj=>?_⟩;by_cases G:j=i
    · subst G;exact(hy.yieldsIf (S:=fun _=>True)).wpOp hi trivial ⟨fun _ h=>h,H⟩
    · have:=ready_mono hj G
      rw[H.1]at this;cases this
  |succ fuel ih=>
    intro D a w I Z hy H;refine⟨fun h=>(by rw[h]at Z;cases Z),fun j hj=>?_⟩;by_cases G:j=i
    · subst G;exact(hy.yieldsIf (S:=fun _=>True)).wpOp hi trivial ⟨fun _ h=>h,H⟩
    · have h1:=H.2 j (ready_mono hj G)
      obtain⟨U,oj,aa,af⟩:=mem_ready.1 hj;have Y:=(mem_ready.1 Z).1
      have ae:∀e∈oj.after,Region.binds md e=true→e.on≠i:=fun e he hb ah=>by
        have h1:=af e he hb
        rw[ah]at h1
        rcases Nat.lt_or_ge i D.size with h'|h'
        · simp[h']at Y h1;rw[Y]at h1;cases h1
        · simp[Array.getElem?_eq_none h']at h1
      have h2:=wpOp_put aa (I j oj aa G U ae) (fun cs b=>X i oi cs b hi) (fun cs b=>X j oj cs b aa) hQ hy h1
      have L:∀k ok,ops[k]?=some ok→k≠i→(D.setIfInBounds j true).getD k true=false→
          (∀e∈ok.after,Region.binds md e=true→e.on≠i)→oi.apart ops ok=true:=fun k ok hk ai ag aj=>by
        refine I k ok hk ai ?_ aj
        by_cases ab:j=k
        · subst ab;exact U
        · rw[getD_set_ne true ab]at ag;exact ag
      refine wpOp_mono (fun a' w' h3=>⟨h3.2.1,ih (D.setIfInBounds j true) a' w' L (ready_mono Z (Ne.symm G)) h3.1 ?_⟩) h2;rw[Array.setIfInBounds_comm _ _ G];exact h3.2.2
theorem Bp {i:Nat} {oi:Oper} {v:Value} {fuel:Nat} {D:Array Bool} {a:Act} {w:World} (hi:ops[i]?=some oi)
    (hs:Region.noSelect ops=true) (Z:Region.free md ops D i=true) (hr:(Region.ready md ops D).contains i=true)
    (I:Region.y7 md ops D=true) (hl:Region.lastB md ops D ds i=true)
    (Y:∀c a w,Q (.panic c) (a.put oi.dst v) w→Q (.panic c) a w) (L:YieldsIf P ops S oi v a) (U:S w)
    (h:kK P md ops Q S ds fuel (D.setIfInBounds i true) (a.put oi.dst v) w):kK P md ops Q S ds (fuel+1) D a w:=
  Ab hi (Region.noSelect_spec hs) Y ops.size fuel D a w (Region.free_spec hi Z) (Region.Ca I)
    (fun d X G=>by have:=List.all_eq_true.1 hl d X;rw[G]at this;simpa using this) (by simpa using hr) L U h
theorem BA {G:List Nat} {fuel:Nat} {D:Array Bool} {a:Act} {w:World} (L:Region.ready md ops D=G) (I:G≠[])
    (h:∀i∈G,wpOp P ops Q i (fun a' w'=>(i∉ds→S w→S w')∧kK P md ops Q S ds fuel (D.setIfInBounds i true) a' w') a w):kK P md ops Q S ds (fuel+1) D a w:=
  ⟨fun U=>absurd (L▸U) I,L▸h⟩
theorem AQ{D:Array Bool}{a:Act}{w:World}(G:Region.ready md ops D=[])(h:Q .normal a w):
    ∀fuel,kK P md ops Q S ds fuel D a w
  |0=>⟨G,h⟩
  |_+1=>⟨fun _=>h,by rw[G];simp⟩
theorem Ar {G:Nat} {a:Act} {w:World} (D:P.follows .mixedOrders=true)
    (h:kK P .any ops Q S ds ops.size (Array.replicate ops.size false) a {w with drawn:=w.drawn+1}):(Code.region G ops true).wp P Q a w:=
  wp_region_any D (yJ _ _ _ _ h)
end
section
variable {P:Program} {ops:Array Oper} {Q:Exit→Act→World→Prop} {md:Region.Mode} {S:World→Prop} {ds:List Nat}
def rQ(P:Program)(md:Region.Mode)(ops:Array Oper)(Q:Exit→Act→World→Prop)(S:World→Prop)(ds:List Nat)(fuel:Nat)(D:Array Bool)(a:Act)(w:World)(G:List Nat):Prop:=
  ∀i∈G,wpOp P ops Q i (fun a' w'=>(i∉ds→S w→S w')∧kK P md ops Q S ds fuel (D.setIfInBounds i true) a' w') a w
theorem rQ.nil{fuel:Nat}{D:Array Bool}{a:Act}{w:World}:rQ P md ops Q S ds fuel D a w []:=fun _ h=>by cases h
theorem rQ.cons {fuel:Nat} {D:Array Bool} {a:Act} {w:World} {i:Nat} {o:Oper} {L:List Nat} (Y:ops[i]?=some o) (hd:i∉ds)
    (h:∀G:Act→World→Prop,Shut (∀a w,S w→(S w→kK P md ops Q S ds fuel (D.setIfInBounds i true) a w)→G a w)→if Region.wanted o (yielded ops a.tmps)=true then Oper.wp P o a w G Q else G (a.put o.dst undef) w)
    (hs:rQ P md ops Q S ds fuel D a w L):rQ P md ops Q S ds fuel D a w (i::L):=fun j I=>by
  rcases List.mem_cons.1 I with rfl|I
  · exact wpOp_step Y (fun G X=>h G (fun a w U Z=>X a w ⟨fun _ _=>U,Z U⟩))
  · exact hs j I
theorem rQ.F9 {fuel:Nat} {D:Array Bool} {a:Act} {w:World} {i:Nat} {o:Oper} {L:List Nat} (Y:ops[i]?=some o) (hd:i∈ds)
    (h:∀G:Act→World→Prop,Shut (∀a w,kK P md ops Q S ds fuel (D.setIfInBounds i true) a w→G a w)→if Region.wanted o (yielded ops a.tmps)=true then Oper.wp P o a w G Q else G (a.put o.dst undef) w)
    (hs:rQ P md ops Q S ds fuel D a w L):rQ P md ops Q S ds fuel D a w (i::L):=fun j I=>by
  rcases List.mem_cons.1 I with rfl|I
  · exact wpOp_step Y (fun G X=>h G (fun a w Z=>X a w ⟨fun U=>absurd hd U,Z⟩))
  · exact hs j I
theorem vL {G:List Nat} {fuel:Nat} {D:Array Bool} {a:Act} {w:World} (L:Region.ready md ops D=G) (I:G≠[])
    (h:rQ P md ops Q S ds fuel D a w G):kK P md ops Q S ds (fuel+1) D a w:=BA L I h
theorem KJ {G n:Nat} {a:Act} {w:World} (l:Array Bool) (L:P.follows .mixedOrders=true) (D:ops.size=n) (hl:Array.replicate n false=l) (I:S w.drew)
    (h:S w.drew→kK P .any ops Q S ds n l a w.drew):(Code.region G ops true).wp P Q a w:=by
  subst D;subst hl;exact Ar L (h I)
def takeB(md:Region.Mode)(ops:Array Oper)(ds:List Nat)(l l':Array Bool)(i:Nat):Bool:=
  Region.noSelect ops&&Region.free md ops l i&&(Region.ready md ops l).contains i&&Region.y7 md ops l&&Region.lastB md ops l ds i&&(l.setIfInBounds i true==l')
theorem HV {i:Nat} {N:Option Tmp} {oi:Oper} {v:Value} {fuel:Nat} {l:Array Bool} {a:Act} {w:World} (l':Array Bool) (hi:ops[i]?=some oi) (hN:oi.dst=N) (D:takeB md ops ds l l' i=true)
    (X:∀c a w,Q (.panic c) (a.put oi.dst v) w→Q (.panic c) a w) (G:YieldsIf P ops S oi v a) (U:S w) {a':Act} (I:a.put N v=a')
    (h:kK P md ops Q S ds fuel l' a' w):kK P md ops Q S ds (fuel+1) l a w:=by
  subst I;subst hN;simp only[takeB,Bool.and_eq_true,beq_iff_eq]at D;obtain⟨⟨⟨⟨⟨h1,h2⟩,L⟩,Z⟩,Y⟩,h6⟩:=D;subst h6;exact Bp hi h1 h2 L Z Y X G U h
def Jv(md:Region.Mode)(ops:Array Oper)(l l':Array Bool)(i:Nat):Bool:=
  Region.noSelect ops&&Region.free md ops l i&&(Region.ready md ops l).contains i&&(l.setIfInBounds i true==l')
theorem LG {i:Nat} {N:Option Tmp} {oi:Oper} {v:Value} {fuel:Nat} {l:Array Bool} {a:Act} {w:World} (l':Array Bool) (hi:ops[i]?=some oi) (Y:oi.dst=N) (D:Jv md ops l l' i=true)
    (U:∀c a w,Q (.panic c) (a.put oi.dst v) w→Q (.panic c) a w) (G:Yields P ops oi v a) {a':Act} (I:a.put N v=a')
    (h:kK P md ops Q S ds fuel l' a' w):kK P md ops Q S ds (fuel+1) l a w:=by
  subst I;subst Y;simp only[Jv,Bool.and_eq_true,beq_iff_eq]at D;obtain⟨⟨⟨h1,h2⟩,L⟩,X⟩:=D;subst X;exact BG hi (Region.noSelect_spec h1) U fuel l a w (Region.free_spec hi h2) (by simpa using L) G h
def zF(md:Region.Mode)(ops:Array Oper)(l l':Array Bool)(i:Nat):Bool:=(Region.ready md ops l==[i])&&(l.setIfInBounds i true==l')
theorem MS {i:Nat} {N:Option Tmp} {oi:Oper} {fuel:Nat} {l:Array Bool} {a:Act} {w:World} (l':Array Bool) (hi:ops[i]?=some oi) (I:oi.dst=N) (D:zF md ops l l' i=true) (hd:i∉ds)
    (h:∀K:Act→World→Prop,Shut (∀a' w',S w'→(S w'→kK P md ops Q S ds fuel l' a' w')→K a' w')→if Region.wanted oi (yielded ops a.tmps)=true then Oper.wp P oi a w K Q else K (a.put N undef) w):
    kK P md ops Q S ds (fuel+1) l a w:=by
  subst I;simp only[zF,Bool.and_eq_true,beq_iff_eq]at D;obtain⟨h1,h2⟩:=D;subst h2;exact vL h1 (by simp) (rQ.cons hi hd (fun K G=>h K G) rQ.nil)
theorem L9 {i:Nat} {N:Option Tmp} {oi:Oper} {fuel:Nat} {l:Array Bool} {a:Act} {w:World} (l':Array Bool) (hi:ops[i]?=some oi) (I:oi.dst=N) (D:zF md ops l l' i=true) (hd:i∈ds)
    (h:∀K:Act→World→Prop,Shut (∀a' w',kK P md ops Q S ds fuel l' a' w'→K a' w')→if Region.wanted oi (yielded ops a.tmps)=true then Oper.wp P oi a w K Q else K (a.put N undef) w):
    kK P md ops Q S ds (fuel+1) l a w:=by
  subst I;simp only[zF,Bool.and_eq_true,beq_iff_eq]at D;obtain⟨h1,h2⟩:=D;subst h2;exact vL h1 (by simp) (rQ.F9 hi hd (fun K G=>h K G) rQ.nil)
theorem Mc{l:Array Bool}{a:Act}{w:World}{n:Nat}(D:(Region.ready md ops l==[])=true)(h:Q .normal a w):kK P md ops Q S ds n l a w:=AQ (by simpa using D) h n
theorem Ml {i j:Nat} {Ni Nj:Option Tmp} {oi D:Oper} {fuel:Nat} {l:Array Bool} {a:Act} {w:World} (li lj:Array Bool) (hi:ops[i]?=some oi) (Z:ops[j]?=some D) (L:oi.dst=Ni) (U:D.dst=Nj)
    (Y:(Region.ready md ops l==[i,j]&&l.setIfInBounds i true==li&&l.setIfInBounds j true==lj)=true) (G:i∉ds) (X:j∉ds)
    (h1:∀K:Act→World→Prop,Shut (∀a' w',S w'→(S w'→kK P md ops Q S ds fuel li a' w')→K a' w')→if Region.wanted oi (yielded ops a.tmps)=true then Oper.wp P oi a w K Q else K (a.put Ni undef) w)
    (h2:∀K:Act→World→Prop,Shut (∀a' w',S w'→(S w'→kK P md ops Q S ds fuel lj a' w')→K a' w')→if Region.wanted D (yielded ops a.tmps)=true then Oper.wp P D a w K Q else K (a.put Nj undef) w):
    kK P md ops Q S ds (fuel+1) l a w:=by
  subst L;subst U;simp only[Bool.and_eq_true,beq_iff_eq]at Y;obtain⟨⟨h3,h4⟩,h5⟩:=Y;subst h4;subst h5;exact vL h3 (by simp) (rQ.cons hi G (fun K I=>h1 K I) (rQ.cons Z X (fun K I=>h2 K I) rQ.nil))
def yO:Act→List (Tmp×Value)→Act
  |a,[]=>a
  |a,(n,v)::r=>yO (a.put (some n) v) r
theorem Me {σ:Type} {fuel:Nat} {l:Array Bool} {a:Act} {w:World} (D:Nat) (l':Array Bool) (I:σ→List (Tmp×Value)) (F:σ→World→Prop)
    (G:∀s w',F s w'→kK P md ops Q S ds D l' (yO a (I s)) w')
    (h:(∀s w',F s w'→kK P md ops Q S ds D l' (yO a (I s)) w')→kK P md ops Q S ds fuel l a w):kK P md ops Q S ds fuel l a w:=h G
theorem Db{fuel:Nat}{l:Array Bool}{a a':Act}{w:World}(D:a=a')(h:kK P md ops Q S ds fuel l a' w):kK P md ops Q S ds fuel l a w:=by
  subst D;exact h
theorem call_ {oi:Oper} {N:Option Tmp} {a:Act} {w:World} {K:Act→World→Prop} (f:FuncId) (args:Array Value) (L:Region.wanted oi (yielded ops a.tmps)=true) (G:oi.dst=N) (D:(execOp a.eval oi).run P w= .ok (.enter f args) w)
    (h:Calls P f args w fun e w'=>∃v,e= .returned v∧K (a.put N v) w'):if Region.wanted oi (yielded ops a.tmps)=true then Oper.wp P oi a w K Q else K (a.put N undef) w:=by
  rw[if_pos L];subst G;unfold Oper.wp;rw[D,Oper.upon_enter];refine h.mono fun e U I=>?_;obtain⟨v,rfl,hk⟩:=I;exact hk
theorem Fx{f:FuncId}{G:Func}(L:P.funcs[f]?=some G)(D:(G.name== "runtime.NumGoroutine")=false)(U:G.body.isSome=true)(args:Array Value)(w:World):(callFunc f args).run P w= .ok (.enter f args) w:=by
  have h1:G.name≠ "runtime.NumGoroutine" :=by simpa using D
  obtain⟨c,I⟩:=Option.isSome_iff_exists.1 U;simp[callFunc,L,h1,I]
theorem Ki {oi:Oper} {N:Option Tmp} {a:Act} {w:World} {K:Act→World→Prop} {f:FuncId} {I:Func} {U:Array Operand} {ts:Array TypeId} (Z:P.funcs[f]?=some I) (D:(I.name== "runtime.NumGoroutine")=false) (Y:I.body.isSome=true) (args:Array Value)
    (hw:Region.wanted oi (yielded ops a.tmps)=true) (hN:oi.dst=N) (L:oi.op= .call {callee:= .value (.func f),args:=U,argTypes:=ts}) (G:U.map a.eval=args)
    (h:Calls P f args w fun e w'=>∃v,e= .returned v∧K (a.put N v) w'):if Region.wanted oi (yielded ops a.tmps)=true then Oper.wp P oi a w K Q else K (a.put N undef) w:=by
  refine call_ f args hw hN ?_ h;have X:=Fx Z D Y args w;unfold execOp;simp[L,resolve,Deferred.ofValue,invoke,Act.eval,G,X]
theorem xQ {rest:List Oper} {oi:Oper} {a:Act} {w:World} (N:Option Tmp) (hd:oi.dst=N) (hg:oi.guard=none) {f:FuncId} {L:Func} {X:Array Operand} {ts:Array TypeId} (hf:P.funcs[f]?=some L) (D:(L.name== "runtime.NumGoroutine")=false) (hb:L.body.isSome=true) (args:Array Value)
    (U:oi.op= .call {callee:= .value (.func f),args:=X,argTypes:=ts}) (G:X.map a.eval=args)
    (h:Calls P f args w fun e w'=>∃v,e= .returned v∧wpList P ops Q rest (a.put N v) w'):wpList P ops Q (oi::rest) a w:=by
  refine wpList_plain hg fun K Y=>?_;have Z:=Fx hf D hb args w;have I:(execOp a.eval oi).run P w= .ok (.enter f args) w:=by
    unfold execOp;simp[U,resolve,Deferred.ofValue,invoke,Act.eval,G,Z]
  unfold Oper.wp;rw[I,Oper.upon_enter];refine h.mono fun e aa hh=>?_;obtain⟨v,rfl,hk⟩:=hh;subst hd;exact Y _ _ hk
theorem Dw {oi:Oper} {a:Act} {w w1:World} {K:Act→World→Prop} (G:Region.wanted oi (yielded ops a.tmps)=true) (I:oi.dst=none) (D:(execOp a.eval oi).run P w= .ok .skip w1)
    (h:K a w1):if Region.wanted oi (yielded ops a.tmps)=true then Oper.wp P oi a w K Q else K (a.put none undef) w:=by
  rw[if_pos G];unfold Oper.wp;rw[D];show K (a.put oi.dst undef) w1;rw[I];exact h
theorem kZ(n:Int):IntKind.i64.wrap n=Go.RowKit.wrap64 n:=by unfold Go.RowKit.wrap64;exact IntKind.wrap_i64 n
theorem qY(n:Int):IntKind.i32.wrap n=Go.RowKit.wrap32 n:=by unfold Go.RowKit.wrap32;exact IntKind.wrap_i32 n
end
end Go.Proofs.PL
namespace Go.Proofs.PW
open RowKit
namespace Kd
section
variable {α:Type} {d:Kd α} {e base g o n cap:Nat} {ok okp:Nat→Prop} {w W:World} {v:Value} {xs:List α}
end
section
variable {α:Type} {enc:α→Value} {h1:∀x,(enc x).oneCell'=true} {e base g o n cap:Nat} {ok:Nat→Prop} {W:World} {xs:List α}
end
end Kd
end Go.Proofs.PW
namespace Go.Proofs.PW
open RowKit
namespace Kd
def tag{α:Type}(f:Nat→Nat)(d:Kd α):Kd (α×Nat) where
  sz:=d.sz
  E:=d.E
  K:=fun w x cs=>d.K w x.1 cs
  M:=fun w base ok x cs=>d.M w base (fun k=>ok k∧f k=x.2) x.1 cs
  vg:=fun h=>d.vg h
  vk:=fun h=>d.vk h
  tC:=fun G h=>d.tC G h
  sS:=fun h=>d.sS h
  rY:=fun D h=>d.rY (fun k hk=>⟨D k hk.1,hk.2⟩) h
  sF:=fun h=>d.rY (fun _ hk=>⟨⟨hk.1.1,hk.2⟩,hk.1.2⟩) (d.sF h)
  sZ:=fun I h=>d.sZ (fun k hk=>I k hk.1) h
  tu:=fun G h=>d.tu G h
def bare{α:Type}(d:Kd α):Kd α where
  sz:=d.sz
  E:=d.E
  K:=d.K
  M:=fun w base _ x cs=>d.M w base (fun _=>False) x cs
  vg:=fun h=>d.vg h
  vk:=fun h=>d.vk h
  tC:=fun D h=>d.tC D h
  sS:=fun h=>d.sS h
  rY:=fun _ h=>h
  sF:=fun h=>h
  sZ:=fun _ h=>d.sZ (fun _ hk=>hk.elim) h
  tu:=fun D h=>d.tu D h
def raw(sz:Nat):Kd (List Value) where
  sz:=sz
  E:=[]
  K:=fun _ x cs=>cs=x∧cs.length=sz∧∀u∈cs,u.oneCell'=true
  M:=fun _ _ _ x cs=>cs=x∧cs.length=sz∧∀u∈cs,u.oneCell'=true
  vg:=fun h=>h.2.1
  vk:=fun h=>h.2.2
  tC:=fun _ h=>h
  sS:=fun h=>h
  rY:=fun _ h=>h
  sF:=fun h=>h
  sZ:=fun _ h=>h
  tu:=fun _ h=>h
def S{α:Type}(d:Kd α)(e:Nat)(w:World)(base:Nat)(ok:Nat→Prop)(v:Value)(xs:List α):Prop:=∃f,(tag f d).R e w base ok v xs.zipIdx
section
variable {α β:Type} {d:Kd α} {d':Kd β} {e e':Nat} {w w1 W:World} {base b:Nat} {ok ok' okv oku:Nat→Prop} {u v:Value} {xs:List α} {ys:List β}
end
section
variable {α β:Type} {d:Kd α} {d':Kd β} {e e' g:Nat} {w w1 W:World} {base b:Nat} {ok ok' okv oku:Nat→Prop} {u v:Value} {xs:List α} {ys:List β}
end
section
variable {P:Program} {ops:Array Oper} {rest:List Oper} {o:Oper} {a:Act} {Q:Exit→Act→World→Prop} {Kc:Act→World→Prop} {α:Type}
end
def gap{α:Type}(f:Nat→Nat)(d:Kd α)(i:Nat)(c:List Value):Kd (α×Nat) where
  sz:=d.sz
  E:=d.E
  K:=fun w x cs=>(x.2=i→cs=c∧cs.length=d.sz∧∀u∈cs,u.oneCell'=true)∧(x.2≠i→d.K w x.1 cs)
  M:=fun w base ok x cs=>(x.2=i→cs=c∧cs.length=d.sz∧∀u∈cs,u.oneCell'=true)∧(x.2≠i→d.M w base (fun k=>ok k∧f k=x.2) x.1 cs)
  vg:=fun{w x cs} h=>by
    by_cases D:x.2=i
    · exact(h.1 D).2.1
    · exact d.vg (h.2 D)
  vk:=fun{w x cs} h=>by
    by_cases D:x.2=i
    · exact(h.1 D).2.2
    · exact d.vk (h.2 D)
  tC:=fun G h=>⟨h.1,fun D=>d.tC G (h.2 D)⟩
  sS:=fun h=>⟨h.1,fun D=>d.sS (h.2 D)⟩
  rY:=fun I h=>⟨h.1,fun D=>d.rY (fun k hk=>⟨I k hk.1,hk.2⟩) (h.2 D)⟩
  sF:=fun h=>⟨h.1,fun D=>d.rY (fun _ hk=>⟨⟨hk.1.1,hk.2⟩,hk.1.2⟩) (d.sF (h.2 D))⟩
  sZ:=fun L h=>⟨h.1,fun D=>d.sZ (fun k hk=>L k hk.1) (h.2 D)⟩
  tu:=fun G h=>⟨h.1,fun D=>d.tu G (h.2 D)⟩
def H{α:Type}(d:Kd α)(e:Nat)(w:World)(base:Nat)(ok:Nat→Prop)(v:Value)(xs:List α)(i:Int)(oki:Nat→Prop)(c:List Value):Prop:=
  (∀k,oki k→ok k)∧∃f,(gap f d i.toNat c).R e w base (fun k=>ok k∧¬oki k) v xs.zipIdx
section
variable {α β:Type} {d:Kd α} {e e' g n cap:Nat} {w w1 W:World} {base:Nat} {ok ok' oki okp:Nat→Prop} {u v:Value} {xs:List α} {i:Int} {c:List Value}
end
section
variable {P:Program} {ops:Array Oper} {rest:List Oper} {o:Oper} {a:Act} {Q:Exit→Act→World→Prop} {α:Type}
end
end Kd
end Go.Proofs.PW
namespace Go.Proofs.PW
open RowKit
namespace Kd
section
variable {α:Type} {n:Nat} {d:Kd α} {hs:0<d.sz} {w:World} {base:Nat} {ok:Nat→Prop} {xs:List α} {cs:List Value}
end
section
variable {α:Type} {n:Nat} {enc:α→Value} {h1:∀x,(enc x).oneCell'=true} {hs:0<(scalar enc h1).sz} {w:World} {base:Nat} {ok:Nat→Prop} {xs:List α} {cs:List Value}
end
end Kd
end Go.Proofs.PW
namespace Go.Proofs.PW
open RowKit
section
variable {P:Program}
end
namespace Kd
section
variable {P:Program} {ops:Array Oper} {rest:List Oper} {o:Oper} {a:Act} {Q:Exit→Act→World→Prop} {Kc:Act→World→Prop} {α:Type}
end
section
variable {α:Type} {d:Kd α} {e:Nat} {w:World} {base:Nat} {ok:Nat→Prop} {v:Value} {xs:List α}
end
section
variable {P:Program} {ops:Array Oper} {rest:List Oper} {o:Oper} {a:Act} {Q:Exit→Act→World→Prop} {Kc:Act→World→Prop} {α:Type}
end
end Kd
end Go.Proofs.PW
namespace Go.Proofs.PW
open RowKit
namespace Kd
structure Heap{α:Type}(d:Kd α):Prop where
  K:∀{w w1:World} {x:α} {cs:List Value},(∀k,k<w.heap.size→w1.heap[k]?=w.heap[k]?)→d.K w x cs→d.K w1 x cs
theorem Gs{w w1:World}(D:∀k,k<w.heap.size→w1.heap[k]?=w.heap[k]?){a:Addr}{v:Value}(h:w.cell? a=some v):w1.cell? a=some v:=by
  have:=D a.block (World.block_lt_of_cell? w a h);simpa[World.cell?,this]using h
theorem Heap.C{α:Type}{d:Kd α}(hd:Heap d){w w1:World}{A:Option Addr}{n:Nat}{xs:List α}(G:∀k,k<w.heap.size→w1.heap[k]?=w.heap[k]?)(h:d.C w A n xs):d.C w1 A n xs:=
  ⟨h.1,h.2.1,fun U=>by
    obtain⟨ad,e,I⟩:=h.2.2 U
    refine⟨ad,e,fun j p L=>?_⟩
    obtain⟨c,hs,X,D⟩:=I j p L
    exact⟨c,hs,hd.K G X,fun i u Y=>Gs G (D i u Y)⟩⟩
section
variable {α:Type} {d:Kd α} {e base g n c:Nat} {ok:Nat→Prop} {w w0 W:World} {A:Option Addr} {xs:List α}
end
end Kd
end Go.Proofs.PW
namespace Go.Proofs.PW
open RowKit
def Kept(w W:World)(S:Nat→Prop):Prop:=w.heap.size≤W.heap.size∧∀i,i<w.heap.size→¬S i→W.heap[i]?=w.heap[i]?
section
variable {w W W2:World} {S S2 S':Nat→Prop}
theorem Kept.refl(w:World)(S:Nat→Prop):Kept w w S:=⟨Nat.le_refl _,fun _ _ _=>rfl⟩
theorem Kept.of_below(h:Below w.heap.size w W)(S:Nat→Prop):Kept w W S:=⟨h.size,fun i hi _=>h.block i hi⟩
theorem Kept.mono(h:Kept w W S)(hs:∀k,S k→S' k):Kept w W S':=⟨h.1,fun i hi D=>h.2 i hi (fun hk=>D (hs i hk))⟩
theorem Kept.then_(h:Kept w W S)(k:Kept W W2 S2)(hs:∀k,S2 k→S k∨w.heap.size≤k):Kept w W2 S:=
  ⟨Nat.le_trans h.1 k.1,fun i hi D=>(k.2 i (Nat.lt_of_lt_of_le hi h.1) (fun h2=>(hs i h2).elim D (fun G=>by omega))).trans (h.2 i hi D)⟩
theorem Kept.below(h:Kept w W S)(D:Below W.heap.size W W2):Kept w W2 S:=h.then_ (Kept.of_below D (fun _=>False)) (fun _ hk=>hk.elim)
theorem Kept.alloc(h:Kept w W S)(o:Obj):Kept w (W.alloc o) S:=h.below (eX (Below.refl _ _) o)
theorem Kept.drew(h:Kept w W S):Kept w W.drew S:=h
theorem Kept.drewN(h:Kept w W S)(m:Nat):Kept w (W.drewN m) S:=h
theorem Kept.setCell(h:Kept w W S){p:Addr}(G:S p.block∨w.heap.size≤p.block)(u:Value):Kept w (W.setCell p u) S:=
  h.then_ (S2:=fun k=>k=p.block) ⟨by simp[World.setCell],fun i _ D=>Below.heap_setCell W p u i D⟩ (fun k hk=>by rw[hk];exact G)
theorem Kept.keep{g:Nat}(h:sK w W g none)(k:Kept W W2 S2)(hs:∀k,S2 k→w.heap.size≤k):sK w W2 g none:=
  ⟨Nat.le_trans h.1 k.1,fun i hi G D=>(k.2 i (Nat.lt_of_lt_of_le hi h.1) (fun h2=>by have:=hs i h2;omega)).trans (h.2 i hi G D)⟩
end
namespace Kd
section
variable {α:Type} {d:Kd α} {e base n c:Nat} {ok oki S S2:Nat→Prop} {w w0 W W1 W2:World} {v:Value} {A:Option Addr} {xs:List α} {i:Int} {cs:List Value}
end
end Kd
end Go.Proofs.PW
namespace Go.Proofs.PW
open RowKit
def yR(P:World→Prop)(W:World)(ok:Nat→Prop):Prop:=∀W':World,(∀k,ok k→k<W.heap.size→W'.heap[k]?=W.heap[k]?)→P W'
theorem JR{W W1:World}{k:Nat}(h:W1.heap[k]?=W.heap[k]?)(D:k<W.heap.size):k<W1.heap.size:=by
  rw[Array.getElem?_eq_getElem D]at h;exact(Array.getElem?_eq_some_iff.1 h).1
namespace yR
variable {P Q:World→Prop} {W W1:World} {ok ok':Nat→Prop}
theorem now(h:yR P W ok):P W:=h W (fun _ _ _=>rfl)
theorem mono(h:yR P W ok)(G:∀k,ok k→ok' k):yR P W ok':=fun W' I=>h W' (fun k hk D=>I k (G k hk) D)
theorem bound(h:yR P W ok):yR P W (fun k=>ok k∧k<W.heap.size):=fun W' G=>h W' (fun k hk D=>G k ⟨hk,D⟩ D)
theorem step(h:yR P W ok)(G:∀k,ok k→k<W.heap.size→W1.heap[k]?=W.heap[k]?):yR P W1 ok:=fun W' I=>h W' (fun k hk D=>(I k hk (JR (G k hk D) D)).trans (G k hk D))
theorem imp(h:yR P W ok)(hi:∀W',P W'→Q W'):yR Q W ok:=fun W' D=>hi W' (h W' D)
theorem old(h:yR P W ok)(G:Below W.heap.size W W1):yR P W1 (fun k=>ok k∧k<W.heap.size):=(h.bound).step (fun k _ D=>G.block k D)
end yR
namespace Kd
def F{α:Type}(d:Kd α)(W:World)(ok:Nat→Prop)(A:Option Addr)(n:Nat)(xs:List α):Prop:=yR (fun W=>d.C W A n xs) W ok
def FK{α:Type}(d:Kd α)(W:World)(ok:Nat→Prop)(x:α)(c:List Value):Prop:=yR (fun W=>d.K W x c) W ok
section
variable {α β:Type} {d:Kd α} {e base n n' cc g N:Nat} {ok ok' okp S:Nat→Prop} {w w0 w1 W W1:World} {A A':Option Addr} {u v v1:Value} {xs:List α} {xs':List β} {d':Kd β} {x:α} {c:List Value}
theorem Mg(d:Kd α)(W:World)(ok:Nat→Prop):F d W ok none ([]:List α).length []:=fun W' _=>Ms d W'
end
end Kd
end Go.Proofs.PW
namespace Go.Proofs.PW
open RowKit
namespace Kd
section
variable {α:Type} {d:Kd α} {e base n cc g:Nat} {ok ok' okp S:Nat→Prop} {w w1 W W1:World} {A:Option Addr} {u v v1:Value} {xs:List α} {x:α} {c:List Value}
def N{α:Type}(d:Kd α)(e:Nat)(w:World)(base:Nat)(ok:Nat→Prop)(v:Value)(xs:List α):Prop:=
  (∀k,v.ownBlock=some k→ok k)∧∃rows:List (List Value),rows.length=xs.length∧(raw d.sz).R e w base (fun k=>some k=v.ownBlock) v rows∧∀(j:Nat) (x:α) (c:List Value),xs[j]?=some x→rows[j]?=some c→FK d w (fun k=>ok k∧some k≠v.ownBlock) x c
end
end Kd
end Go.Proofs.PW
namespace Go.Proofs.PW
open RowKit
namespace Kd
section
variable {α:Type} {d:Kd α} {e base n cap g:Nat} {ok ok' okp:Nat→Prop} {w w1 W:World} {v v1:Value} {xs ys:List α}
end
section
variable {P:Program} {ops:Array Oper} {rest:List Oper} {o:Oper} {a:Act} {Q:Exit→Act→World→Prop} {Kc:Act→World→Prop} {α:Type}
end
end Kd
end Go.Proofs.PW
namespace Go.Proofs.PM
open RowKit PW
namespace Kd
open PW.Kd
end Kd
namespace Kd
open PW.Kd
section
variable {α:Type} {d:Kd α} {e base g N:Nat} {ok:Nat→Prop} {W w1:World} {u v:Value} {xs:List α}
end
end Kd
theorem qI(k D:IntKind)(x y:Int):Builtin.max2 (.int k x) (.int D y)=pure (.int k (if x<y then y else x)):=by simp only[Builtin.max2,gt_iff_lt]
theorem qH(k D:IntKind)(x y:Int):Builtin.min2 (.int k x) (.int D y)=pure (.int k (if y<x then y else x)):=by simp only[Builtin.min2]
theorem qV(D:Array TypeId)(G:TypeId)(a b:Value):Builtin.max_ D G #[a,b]=(Builtin.max2 a b>>=fun s=>pure s):=by simp only[Builtin.max_,List.foldlM_cons,List.foldlM_nil]
theorem qW(D:Array TypeId)(G:TypeId)(a b:Value):Builtin.min_ D G #[a,b]=(Builtin.min2 a b>>=fun s=>pure s):=by simp only[Builtin.min_,List.foldlM_cons,List.foldlM_nil]
theorem qz(D:Array TypeId)(G:TypeId)(a b c:Value):Builtin.max_ D G #[a,b,c]=(Builtin.max2 a b>>=fun s=>Builtin.max2 s c>>=fun s=>pure s):=by simp only[Builtin.max_,List.foldlM_cons,List.foldlM_nil]
theorem qA(D:Array TypeId)(G:TypeId)(a b c:Value):Builtin.min_ D G #[a,b,c]=(Builtin.min2 a b>>=fun s=>Builtin.min2 s c>>=fun s=>pure s):=by simp only[Builtin.min_,List.foldlM_cons,List.foldlM_nil]
theorem qM(D:Array TypeId)(G:TypeId)(a b c d:Value):Builtin.max_ D G #[a,b,c,d]=(Builtin.max2 a b>>=fun s=>Builtin.max2 s c>>=fun s=>Builtin.max2 s d>>=fun s=>pure s):=by simp only[Builtin.max_,List.foldlM_cons,List.foldlM_nil]
theorem qL(D:Array TypeId)(G:TypeId)(a b c d:Value):Builtin.min_ D G #[a,b,c,d]=(Builtin.min2 a b>>=fun s=>Builtin.min2 s c>>=fun s=>Builtin.min2 s d>>=fun s=>pure s):=by simp only[Builtin.min_,List.foldlM_cons,List.foldlM_nil]
end Go.Proofs.PM
namespace Go.Proofs.PW
open RowKit
section
variable {P:Program} {ops:Array Oper} {rest:List Oper} {o:Oper} {a:Act} {Q:Exit→Act→World→Prop} {W:World}
theorem uo{f:FuncId}{D:Array Operand}{ts:Array TypeId}(G:o.op= .call {callee:= .value (.func f),args:=D,argTypes:=ts})(h:wpList P ops Q (o::rest) a W):wpList P ops Q (o::rest) a W:=h
theorem kW{b:Builtin}{xs:Array Operand}{ts:Array TypeId}(D:o.op= .call {callee:= .builtin b,args:=xs,argTypes:=ts})(h:wpList P ops Q (o::rest) a W):wpList P ops Q (o::rest) a W:=h
end
def mx(a b:Int):Int:=if a<b then b else a
def mn(a b:Int):Int:=if b<a then b else a
namespace Kd
section
variable {α:Type} {d:Kd α} {e base:Nat} {ok:Nat→Prop} {W w1:World} {v:Value} {xs:List α}
end
section
variable {α:Type} {d:Kd α} {e base g n cap:Nat} {ok oki okp:Nat→Prop} {W:World} {xs:List α} {i:Int} {c:List Value}
end
section
variable {α:Type} {d:Kd α} {e base b b' g N:Nat} {ok ok1:Nat→Prop} {W W2 w1:World} {u v:Value} {xs ys:List α} {S:Nat→Prop}
end
end Kd
end Go.Proofs.PW
namespace Go.Proofs.PW
open RowKit
namespace Kd
def V{α:Type}(d:Kd α)(G:Nat)(W:World)(D:Nat)(ok:Nat→Prop)(v:Value)(xs:List α):Prop:=∃A c,v= .slice A xs.length c∧xs.length≤c∧F d W ok A xs.length xs
section
variable {α β:Type} {d:Kd α} {e base base' n m c g N' lo hi:Nat} {ok ok' S:Nat→Prop} {w W w1:World} {A:Option Addr} {ad:Addr} {u v v1:Value} {xs:List α}
theorem xq(d:Kd α)(e:Nat)(W:World)(base:Nat)(ok:Nat→Prop):V d e W base ok (.slice none 0 0) []:=⟨none,0,rfl,Nat.le_refl _,Mg d W ok⟩
end
end Kd
end Go.Proofs.PW
namespace Go.Proofs.PL
open PW (eD)
def yD(md:Region.Mode)(o:Oper):List Nat:=(o.after.toList.filter (fun e=>Region.binds md e)).map (fun e=>e.on)
def Ci(md:Region.Mode)(ops:Array Oper)(i:Nat)(oi:Oper):List Nat:=(List.range ops.size).filter fun j=> !(j==i)&&match ops[j]? with
  |some oj=> !(oj.after.any (fun e=>Region.binds md e&&e.on==i)||oi.apart ops oj)
  |none=>false
def sQ(md:Region.Mode)(ops:Array Oper):Bool×List (List Nat×List Nat):=(Region.noSelect ops,(List.range ops.size).map fun i=>match ops[i]? with
  |some o=>(yD md o,Ci md ops i o)
  |none=>([],[]))
def wN(T:List (List Nat×List Nat))(l:List Bool)(i:Nat):Bool:= !l.getD i true&&match T[i]? with
  |some r=>r.1.all (fun j=>l.getD j false)
  |none=>false
def wQ(T:List (List Nat×List Nat))(l:List Bool):List Nat:=(List.range T.length).filter (wN T l)
def DU(T:List (List Nat×List Nat))(l:List Bool)(i:Nat):Bool:=match T[i]? with
  |some r=>r.2.all (fun j=>l.getD j true)
  |none=>false
def Ag(T:List (List Nat×List Nat))(l:List Bool):Bool:=(List.range T.length).all fun j=> !l.getD j false||match T[j]? with
  |some r=>r.1.all (fun k=>l.getD k false)
  |none=>true
def zN(T:List (List Nat×List Nat))(i:Nat):Nat→Nat→Bool
  |0,_=>false
  |fuel+1,d=>match T[d]? with
    |some r=>r.1.any fun j=>j==i||zN T i fuel j
    |none=>false
def lastT(T:List (List Nat×List Nat))(l:List Bool)(ds:List Nat)(i:Nat):Bool:=ds.all fun d=>l.getD d true||zN T i T.length d
section
variable {md:Region.Mode} {ops:Array Oper} {T:Bool×List (List Nat×List Nat)} {l l' li lj lk:Array Bool} {ds:List Nat} {i j k:Nat}
theorem gd(l:Array Bool)(j:Nat)(b:Bool):l.getD j b=l.toList.getD j b:=by simp[Array.getD_eq_getD_getElem?,List.getD_eq_getElem?_getD]
theorem BL(o:Oper)(p:Nat→Bool):o.after.all (fun e=> !Region.binds md e||p e.on)=(yD md o).all p:=by
  unfold yD;rw[←Array.all_toList]
  induction o.after.toList with
  |nil=>rfl
  |cons e r ih=>
    rw[List.all_cons,ih,List.filter_cons];cases h:Region.binds md e<;>simp
theorem GD(o:Oper)(p:Nat→Bool):o.after.any (fun e=>Region.binds md e&&p e.on)=(yD md o).any p:=by
  unfold yD;rw[←Array.any_toList]
  induction o.after.toList with
  |nil=>rfl
  |cons e r ih=>
    rw[List.any_cons,ih,List.filter_cons];cases h:Region.binds md e<;>simp
theorem wM:(sQ md ops).2.length=ops.size:=by simp[sQ]
theorem yh{o:Oper}(h:ops[i]?=some o):(sQ md ops).2[i]?=some (yD md o,Ci md ops i o):=by
  have hi:=(Array.getElem?_eq_some_iff.1 h).1;unfold sQ;rw[List.getElem?_map,List.getElem?_range hi,Option.map_some,h]
theorem yx(h:ops[i]?=none):(sQ md ops).2[i]?=none:=by
  have hi:ops.size≤i:=Array.getElem?_eq_none_iff.1 h;exact List.getElem?_eq_none (by rw[wM];exact hi)
theorem Es:wN (sQ md ops).2 l.toList i=(!l.getD i true&&((ops[i]?).map (·.after.all fun e=> !Region.binds md e||l.getD e.on false)).getD false):=by
  unfold wN;rw[gd];cases h:ops[i]? with
  |none=>rw[yx h];rfl
  |some o=>
    rw[yh h];simp only[Option.map_some,Option.getD_some];rw[←BL];simp only[gd]
theorem ready_eq:Region.ready md ops l=wQ (sQ md ops).2 l.toList:=by
  unfold Region.ready wQ;rw[wM];refine List.filter_congr (fun i _=>?_);rw[Es]
theorem free_eq:Region.free md ops l i=DU (sQ md ops).2 l.toList i:=by
  unfold Region.free DU;cases h:ops[i]? with
  |none=>rw[yx h]
  |some oi=>
    rw[yh h];simp only[Ci];rw[List.all_filter];congr 1
    funext j
    rw[gd];cases hj:ops[j]? with
    |none=>cases(j==i)<;>cases(l.toList.getD j true)<;>simp
    |some oj=>
      cases(j==i)<;>cases(l.toList.getD j true)<;>cases(oj.after.any (fun e=>Region.binds md e&&e.on==i)||oi.apart ops oj)<;>simp_all
theorem Gj:Region.y7 md ops l=Ag (sQ md ops).2 l.toList:=by
  unfold Region.y7 Ag;rw[wM];congr 1
  funext j
  rw[gd];cases h:ops[j]? with
  |none=>rw[yx h]
  |some o=>
    rw[yh h];simp only;rw[←BL];simp only[gd]
theorem DC:∀(fuel d:Nat),Region.vM md ops i fuel d=zN (sQ md ops).2 i fuel d
  |0,_=>rfl
  |fuel+1,d=>by
    unfold Region.vM zN
    cases h:ops[d]? with
    |none=>rw[yx h]
    |some o=>
      rw[yh h];simp only;rw[←GD];congr 1
      funext e
      rw[DC fuel]
theorem JE:Region.lastB md ops l ds i=lastT (sQ md ops).2 l.toList ds i:=by
  unfold Region.lastB lastT;rw[wM];congr 1
  funext d
  rw[gd,DC]
theorem zS(h:wN T.2 l.toList i=true)(D:sQ md ops=T):(Region.ready md ops l).contains i=true:=by
  subst D;rw[ready_eq];unfold wQ;rw[List.contains_iff_mem,List.mem_filter,List.mem_range];refine⟨?_,h⟩;unfold wN at h;rw[Bool.and_eq_true]at h;cases hq:(sQ md ops).2[i]? with
  |none=>rw[hq]at h;simp at h
  |some r=>exact(List.getElem?_eq_some_iff.1 hq).1
theorem wU(h:(l.toList.set i true==l'.toList)=true):(l.setIfInBounds i true==l')=true:=by
  rw[beq_iff_eq]at h⊢;apply Array.ext';rw[Array.toList_setIfInBounds];exact h
def K6(T:Bool×List (List Nat×List Nat))(l l':List Bool)(i:Nat):Bool:=T.1&&DU T.2 l i&&wN T.2 l i&&(l.set i true==l')
theorem KM(D:sQ md ops=T)(h:K6 T l.toList l'.toList i=true):Jv md ops l l' i=true:=by
  simp only[K6,Bool.and_eq_true]at h;obtain⟨⟨⟨h1,h2⟩,G⟩,L⟩:=h;have I:=zS G D;have U:=wU L;subst D;simp only[Jv,Bool.and_eq_true];exact⟨⟨⟨h1,by rw[free_eq];exact h2⟩,I⟩,U⟩
def H8(T:Bool×List (List Nat×List Nat))(ds:List Nat)(l l':List Bool)(i:Nat):Bool:=T.1&&DU T.2 l i&&wN T.2 l i&&Ag T.2 l&&lastT T.2 l ds i&&(l.set i true==l')
theorem Jo(D:sQ md ops=T)(h:H8 T ds l.toList l'.toList i=true):takeB md ops ds l l' i=true:=by
  simp only[H8,Bool.and_eq_true]at h;obtain⟨⟨⟨⟨⟨h1,h2⟩,I⟩,U⟩,L⟩,Y⟩:=h;have X:=zS I D;have G:=wU Y;subst D;simp only[takeB,Bool.and_eq_true];exact⟨⟨⟨⟨⟨h1,by rw[free_eq];exact h2⟩,X⟩,by rw[Gj];exact U⟩,by rw[JE];exact L⟩,G⟩
theorem Cm(D:sQ md ops=T)(h:(wQ T.2 l.toList==[i]&&l.toList.set i true==l'.toList)=true):zF md ops l l' i=true:=by
  simp only[Bool.and_eq_true]at h;obtain⟨h1,h2⟩:=h;subst D;simp only[zF,Bool.and_eq_true];exact⟨by rw[ready_eq];exact h1,wU h2⟩
theorem CJ(G:sQ md ops=T)(h:(wQ T.2 l.toList==[i,j]&&l.toList.set i true==li.toList&&l.toList.set j true==lj.toList)=true):(Region.ready md ops l==[i,j]&&l.setIfInBounds i true==li&&l.setIfInBounds j true==lj)=true:=by
  simp only[Bool.and_eq_true]at h⊢;obtain⟨⟨h1,h2⟩,D⟩:=h;subst G;exact⟨⟨by rw[ready_eq];exact h1,wU h2⟩,wU D⟩
theorem Kg(D:sQ md ops=T)(h:(wQ T.2 l.toList==[])=true):(Region.ready md ops l==[])=true:=by
  subst D;rw[ready_eq];exact h
def upM(B:List Nat)(d:Nat):List Nat→Nat
  |[]=>0
  |n::r=>(2^n|||(if n<d then B.getD n 0 else 0))|||upM B d r
def rP(T:List (List Nat×List Nat))(B:List Nat):Bool:=(List.range T.length).all fun d=>match T[d]? with
  |some r=>(B.getD d 0|||upM B d r.1)==upM B d r.1
  |none=>false
theorem FR{B:List Nat}{d i:Nat}:∀{G:List Nat},(upM B d G).testBit i=true→∃n∈G,n=i∨(n<d∧(B.getD n 0).testBit i=true)
  |[],h=>by simp[upM]at h
  |n::r,h=>by
    unfold upM at h
    rw[Nat.testBit_or,Nat.testBit_or,Bool.or_eq_true,Bool.or_eq_true]at h
    rcases h with(h|h)|h
    · rw[Nat.testBit_two_pow]at h
      exact⟨n,List.mem_cons_self, .inl (by simpa using h)⟩
    · by_cases D:n<d
      · rw[if_pos D]at h
        exact⟨n,List.mem_cons_self, .inr ⟨D,h⟩⟩
      · rw[if_neg D]at h
        simp at h
    · obtain⟨m,I,h2⟩:=FR h
      exact⟨m,List.mem_cons_of_mem _ I,h2⟩
theorem BR{T:List (List Nat×List Nat)}{B:List Nat}(D:rP T B=true):∀(fuel d:Nat),d<fuel→d<T.length→(B.getD d 0).testBit i=true→zN T i fuel d=true
  |0,d,h,_,_=>by omega
  |fuel+1,d,h,hd,hb=>by
    have h1:=List.all_eq_true.1 D d (List.mem_range.2 hd)
    cases hr:T[d]? with
    |none=>rw[hr]at h1;simp at h1
    |some r=>
      rw[hr]at h1;simp only[beq_iff_eq]at h1;(have h2:(upM B d r.1).testBit i=true:=by rw[←h1,Nat.testBit_or,hb,Bool.true_or]);obtain⟨n,G,I⟩:=FR h2;unfold zN;rw[hr];simp only;rw[List.any_eq_true];refine⟨n,G,?_⟩;rcases I with rfl|⟨h4,h5⟩
      · simp
      · rw[BR D fuel n (by omega) (by omega) h5,Bool.or_true]
def yK(T:List (List Nat×List Nat))(B:List Nat)(l:List Bool)(ds:List Nat)(i:Nat):Bool:=ds.all fun d=>l.getD d true||(decide (d<T.length)&&(B.getD d 0).testBit i)
def Jb(T:Bool×List (List Nat×List Nat))(B:List Nat)(ds:List Nat)(l l':List Bool)(i:Nat):Bool:=T.1&&DU T.2 l i&&wN T.2 l i&&Ag T.2 l&&yK T.2 B l ds i&&(l.set i true==l')
theorem I5{B:List Nat}(I:sQ md ops=T)(Y:rP T.2 B=true)(h:Jb T B ds l.toList l'.toList i=true):takeB md ops ds l l' i=true:=by
  refine Jo I ?_;simp only[Jb,H8,Bool.and_eq_true]at h⊢;obtain⟨⟨⟨⟨⟨h1,h2⟩,U⟩,L⟩,G⟩,X⟩:=h;refine⟨⟨⟨⟨⟨h1,h2⟩,U⟩,L⟩,?_⟩,X⟩;unfold yK at G;unfold lastT;rw[List.all_eq_true]at G⊢;intro d hd;have D:=G d hd;rw[Bool.or_eq_true,Bool.and_eq_true,decide_eq_true_eq]at D;rcases D with D|⟨h8,h9⟩
  · rw[D,Bool.true_or]
  · rw[BR Y _ d h8 h8 h9,Bool.or_true]
end
def yF:Code→Nat→Option (Array Oper)
  | .region id ops _,k=>if id==k then some ops else none
  | .seq a b,k=>match yF a k with
    |some o=>some o
    |none=>yF b k
  | .cond _ a b,k=>match yF a k with
    |some o=>some o
    |none=>yF b k
  | .block _ c,k=>yF c k
  | .loop c,k=>yF c k
  | .scope c,k=>yF c k
  | .rangeFunc _ _ a b,k=>match yF a k with
    |some o=>some o
    |none=>yF b k
  |_,_=>none
def opsOf(f:Func)(k:Nat):Array Oper:=((f.body.bind fun c=>yF c k)).getD #[]
end Go.Proofs.PL
namespace Go.Proofs.PW
open RowKit PL
section
variable {s u v w z:World} {g:Nat} {o:Obj}
theorem bsh [Onb s v u](h:eD (Below s.heap.size s u))(k:Below v.heap.size v z):eD (Below s.heap.size s z):=⟨bst h.out k⟩
theorem bkh [On v w](h:eD (w.heap[g]?=some o))(k:Below v.heap.size v z):eD (z.heap[g]?=some o):=⟨iW (obk h.out) k⟩
theorem bka [On v w](h:eD (w.heap[g]?=some o)):eD (v.heap[g]?=some o):=⟨obk h.out⟩
theorem hba [Onb s v u](h:eD (Below s.heap.size s u)):eD (Below s.heap.size s v):=⟨bok h.out⟩
theorem glh [Onb s v u](D:g=v.heap.size)(h:eD (Below s.heap.size s u)):eD (s.heap.size≤g):=⟨gle D h.out⟩
theorem nlh{D:Nat}[On v w](G:D=v.heap.size)(h:eD (w.heap[g]?=some o)):eD (g≠D):=⟨nlt G h.out⟩
theorem ngh{D:Nat}[On v w](G:D=v.heap.size)(h:eD (w.heap[g]?=some o)):eD (D≠g):=⟨ngt G h.out⟩
theorem cu{a:Addr}{x:Value}(D:eD (Below w.heap.size w u))(h:w.cell? a=some x):u.cell? a=some x:=(D.out.cell (World.block_lt_of_cell? w _ h)).trans h
variable {α:Type} {d:Kd α} {e base:Nat} {ok:Nat→Prop} {x:Value} {xs:List α}
theorem rka [On v w](h:eD (d.R e w base ok x xs)):eD (d.R e v base ok x xs):=⟨rok h.out⟩
theorem rkh [On v w](h:eD (d.R e w base ok x xs))(k:Below v.heap.size v z):eD (d.R e z base ok x xs):=⟨Kd.qJ (rok h.out) k⟩
theorem rlh [Onb s v u](h:d.R e z v.heap.size ok x xs)(k:eD (Below s.heap.size s u)):eD (d.R e z s.heap.size ok x xs):=⟨Kd.uW h (kN (bok k.out))⟩
theorem cok{A:Option Addr}{n:Nat}[Onb s v u](h:eD (d.C s A n xs))(k:eD (Below s.heap.size s u)):d.C v A n xs:=Kd.iT h.out (bok k.out)
end
section
variable {P:Program} {ops:Array Oper} {rest:List Oper} {o:Oper} {a:Act} {Q:Exit→Act→World→Prop} {W:World}
theorem gcl(f:FuncId)(N:Option Tmp){D:Array Operand}{ts:Array TypeId}(h:wpList P ops Q (o::rest) a W)(G:o.op= .call {callee:= .value (.func f),args:=D,argTypes:=ts}:=by with_reducible exact rfl)(I:o.dst=N:=by exact rfl):wpList P ops Q (o::rest) a W:=h
theorem gds(N:Tmp)(h:wpList P ops Q (o::rest) a W)(D:o.dst=some N:=by with_reducible exact rfl):wpList P ops Q (o::rest) a W:=h
theorem gca {f:FuncId} {I:Func} (Z:P.funcs[f]?=some I) {N:Option Tmp} {U:Array Operand} {ts:Array TypeId} {args:Array Value} {R:Ending→World→Prop} (X:Calls P f args W R)
    (h:∀e w',R e w'→∃v,e= .returned v∧wpList P ops Q rest (a.put N v) w')
    (L:o.op= .call {callee:= .value (.func f),args:=U,argTypes:=ts}:=by with_reducible exact rfl) (hd:o.dst=N:=by exact rfl) (hg:o.guard=none:=by exact rfl)
    (D:(I.name== "runtime.NumGoroutine")=false:=by kernel_rfl) (Y:I.body.isSome=true:=by exact rfl)
    (G:U.map a.eval=args:=by(try simp only[List.map_toArray,List.map_cons,List.map_nil]);first|done|rfl|(simp only[List.length_drop,List.length_take];rfl)):wpList P ops Q (o::rest) a W:=
  xQ N hd hg Z D Y args L G (X.mono h)
theorem bxe (N:Tmp) {cs:Array Value} {t:TypeId}
    (h:∀g,g=W.heap.size→∀w1,w1.heap[g]?=some (.cells cs t (0,0))→Below W.heap.size W w1→wpList P ops Q rest (a.put o.dst (.pointer (some ⟨g,0,none⟩))) w1)
    (hd:o.dst=some N:=by with_reducible exact rfl) (G:o.guard=none:=by exact rfl)
    (D:(execOp a.eval o).run P W= .ok (.value (.pointer (some ⟨W.heap.size,0,none⟩))) (W.alloc (.cells cs t (0,0))):=by first|(go_simp;done)|(go_simp;rfl)):wpList P ops Q (o::rest) a W:=
  Gu G hd D h
end
section
variable {α β:Type} {p:Prop} [i:Decidable p] {x y:Option α} {r:Option α} {q:α}
theorem ic(h:(if p then x else y)=r):(p∧x=r)∨(¬p∧y=r):=by by_cases c:p;exact .inl ⟨c,(if_pos c).symm.trans h⟩;exact .inr ⟨c,(if_neg c).symm.trans h⟩
theorem icp(h:(if p then x else none)=some q):p∧x=some q:=(ic h).elim id (fun k=>absurd k.2 (by simp))
theorem icn(h:(if p then none else y)=some q):¬p∧y=some q:=(ic h).elim (fun k=>absurd k.2 (by simp)) id
theorem icd(h:(if p then x else y)=r):(decide p=true∧x=r)∨(decide p=false∧y=r):=(ic h).imp (.imp_left decide_eq_true) (.imp_left decide_eq_false)
theorem idp(h:(if p then x else none)=some q):decide p=true∧x=some q:=(icp h).imp_left decide_eq_true
theorem imp(h:(if p then x else none)=some q):decide p=true∧eD p∧x=some q:=⟨(idp h).1,⟨(icp h).1⟩,(icp h).2⟩
theorem ilp(h:(if p then x else none)=some q):eD p∧x=some q:=⟨⟨(icp h).1⟩,(icp h).2⟩
theorem icb{b:Bool}(h:(if b=true then x else y)=r):(b=true∧x=r)∨(b=false∧y=r):=(ic h).imp id (.imp_left Bool.eq_false_iff.mpr)
variable {a b:β}
theorem icg [LT β][j:Decidable (b<a)](h:(@ite _ (a>b) j x y)=r):(decide (b<a)=true∧x=r)∨(decide (b<a)=false∧y=r):=icd h
theorem ich [LE β][j:Decidable (b≤a)](h:(@ite _ (a≥b) j x y)=r):(decide (b≤a)=true∧x=r)∨(decide (b≤a)=false∧y=r):=icd h
variable [BEq β] [LawfulBEq β] [j:Decidable (a=b)]
end
theorem bsv{α β:Type}{x:α}{f:α→Option β}{r:β}(h:((some x).bind f)=some r):∃a,eD (a=x)∧f a=some r:=⟨x,⟨rfl⟩,h⟩
theorem nv{α:Type}(x:α):∃a,eD (a=x):=⟨x,⟨rfl⟩⟩
theorem bsm{α β:Type}{x:Option α}{f:α→Option β}{r:β}(h:(x.bind f)=some r):∃a,eD (x=some a)∧f a=some r:=(Option.bind_eq_some_iff.mp h).imp fun _ k=>⟨⟨k.1⟩,k.2⟩
section
variable {α β γ δ ε ζ:Type} {a a':α} {b b':β} {c c':γ} {d d':δ} {e e':ε} {f f':ζ}
theorem sj2(h:some (a,b)=some (a',b')):a=a'∧b=b':=by cases h;exact⟨rfl,rfl⟩
theorem sj3(h:some (a,b,c)=some (a',b',c')):a=a'∧b=b'∧c=c':=by cases h;exact⟨rfl,rfl,rfl⟩
theorem sj5(h:some (a,b,c,d,e)=some (a',b',c',d',e')):a=a'∧b=b'∧c=c'∧d=d'∧e=e':=by cases h;exact⟨rfl,rfl,rfl,rfl,rfl⟩
end
section
variable {p:Prop}
theorem qe(h:p:=by first|rfl|(simp[*,iO,iN]<;>rfl)|(simp[iO,iN];exact isEmpty_ne _)):p:=h
theorem qf(h:p:=by first|rfl|(simp[*,iO,iN]<;>rfl)):p:=h
theorem qr(h:p:=by first|rfl|(simp;done)|(simp[*];done)):p:=h
theorem ql(h:p:=by first|omega|exact Nat.le_refl _):eD p:=⟨h⟩
theorem qk(h:p:=by have:=HK1.out;omega):eD p:=⟨h⟩
theorem qkl(h:p:=by have:=HK1.out;first|omega|exact Nat.le_refl _):eD p:=⟨h⟩
theorem qj{j:Prop}(D:eD j)(h:j→p:=by intro _;first|omega|exact Nat.le_refl _):eD p:=⟨h D.out⟩
theorem qd(h:p:=by repeat(first|exact qm.refl _|apply qm.step)):p:=h
theorem drw(h:p:=by first|exact⟨rfl,_,World.drewN_drewN _ _ _⟩|exact⟨rfl,_,Eq.trans (World.drewN_drewN _ _ _) (congrArg (World.drewN _) (Nat.add_assoc _ _ _))⟩):p:=h
theorem mon (h:p:=by
  repeat' first
    |(with_reducible first|exact LeO.refl _|exact LeO.none _|refine LeO.ite ?_ ?_|refine LeO.bind ?_ (fun _=>?_))
    |(with_reducible first|apply ih0|apply ih1|apply ih2|apply ih3|apply ih4|apply ih5|apply ih6|apply ih7|apply ih8|apply ih9|apply ih10)
    |(with_reducible first|apply m0|apply m1|apply m2|apply m3|apply m4|apply m5|apply m6|apply m7|apply m8|apply m9|apply m10|apply m11)
    |(first|apply ih0|apply ih1|apply ih2|apply ih3|apply ih4|apply ih5|apply ih6|apply ih7|apply ih8|apply ih9|apply ih10)
    |(first|apply m0|apply m1|apply m2|apply m3|apply m4|apply m5|apply m6|apply m7|apply m8|apply m9|apply m10|apply m11)
    |exact LeO.none _|refine LeO.ite ?_ ?_|refine LeO.bind ?_ (fun _=>?_)):p:=h
end
theorem eR{α:Type}{d:Kd α}{e base:Nat}{ok:Nat→Prop}{x:Value}{xs:List α}{u v z:World}[On v u](q:qm v z)(h:eD (d.R e u base ok x xs)):eD (d.R e z base ok x xs):=by obtain⟨n,rfl⟩:=q;exact⟨Kd.qx (rok h.out) _⟩
theorem eB{u v z:World}{g:Nat}{o:Obj}[On v u](q:qm v z)(h:eD (u.heap[g]?=some o)):eD (z.heap[g]?=some o):=by obtain⟨n,rfl⟩:=q;exact⟨zJ (obk h.out) _⟩
theorem eW{s u v z:World}[Onb s v u](q:qm v z)(h:eD (Below s.heap.size s u)):eD (Below s.heap.size s z):=by obtain⟨n,rfl⟩:=q;exact⟨eP (bok h.out) _⟩
theorem dR{α:Type}{d:Kd α}{e base:Nat}{ok:Nat→Prop}{x:Value}{xs:List α}{w:World}(h:eD (d.R e w base ok x xs)):eD (d.R e w.drew base ok x xs):=⟨Kd.qG h.out⟩
theorem dB{w:World}{g:Nat}{o:Obj}(h:eD (w.heap[g]?=some o)):eD (w.drew.heap[g]?=some o):=⟨vK h.out⟩
theorem dW{u w:World}(h:eD (Below u.heap.size u w)):eD (Below u.heap.size u w.drew):=⟨eZ h.out⟩
def bts(n m:Nat):Array Bool:=((List.range n).map fun i=>m.testBit i).toArray
theorem cl{w:World}{g:Nat}{t:TypeId}{cs:Array Value}{x:Value}(h:eD (w.heap[g]?=some (.cells cs t (0,0))))(j:Nat)(e:cs[j]?=some x:=by exact rfl):w.cell? ⟨g,j,none⟩=some x:=(iF h.out j).trans e
section
variable {P:Program} {ops:Array Oper} {Q:Exit→Act→World→Prop} {md:Region.Mode} {S:World→Prop} {ds:List Nat} {T:Bool×List (List Nat×List Nat)} {B:List Nat} {oi:Oper} {N:Option Tmp} {v:Value} {fuel:Nat} {l:Array Bool} {a a':Act} {w w1:World} {K:Act→World→Prop}
theorem sta{G n:Nat}(D:sQ .any ops=T)(L:rP T.2 B=true)(X:S w.drew)(h:S w.drew→eD (sQ .any ops=T)→eD (rP T.2 B=true)→kK P .any ops Q S ds n (bts n 0) a w.drew)(U:P.follows .mixedOrders=true:=by kernel_rfl)(I:ops.size=n:=by exact rfl)(hl:Array.replicate n false=bts n 0:=by kernel_rfl):(Code.region G ops true).wp P Q a w:=KJ _ U I hl X fun k=>h k ⟨D⟩ ⟨L⟩
theorem pur (i:Nat) (n:Tmp) {m j:Nat} (h:kK P md ops Q S ds fuel (bts j (m+2^i)) a' w) (D:sQ md ops=T:=by exact HT_.out) (hi:ops[i]?=some oi:=by exact rfl) (Y:oi.dst=some n:=by exact rfl) (G:K6 T (bts j m).toList (bts j (m+2^i)).toList i=true:=by kernel_rfl)
    (I:Region.wanted oi (yielded ops a.tmps)=true:=by rfl) (L:∀u,(execOp a.eval oi).run P u= .ok (.value v) u:=by intro w';go_simp;with_reducible rfl)
    (X:a.put (some n) v=a':=by simp only[Act.put,List.setIfInBounds_toArray,List.set_cons_zero,List.set_cons_succ,kZ,qY];rfl) (U:∀c b u,Q (.panic c) (b.put oi.dst v) u→Q (.panic c) b u:=by exact fun _ _ _ h=>h):kK P md ops Q S ds (fuel+1) (bts j m) a w:=
  LG _ hi Y (KM D G) U (.inl ⟨I,L⟩) X h
theorem tak (i:Nat) (n:Tmp) {m j:Nat} (h:kK P md ops Q S ds fuel (bts j (m+2^i)) a' w) (D:sQ md ops=T:=by exact HT_.out) (U:rP T.2 B=true:=by exact HW_.out) (hS:S w:=by exact hHeld) (hi:ops[i]?=some oi:=by exact rfl) (Z:oi.dst=some n:=by exact rfl) (G:Jb T B ds (bts j m).toList (bts j (m+2^i)).toList i=true:=by kernel_rfl)
    (Y:Region.wanted oi (yielded ops a.tmps)=true:=by rfl) (I:∀u,S u→(execOp a.eval oi).run P u= .ok (.value v) u:=by intro w' hs;revert hs;(try simp only[and_imp]);intros;go_simp;with_reducible rfl)
    (L:a.put (some n) v=a':=by simp only[Act.put,List.setIfInBounds_toArray,List.set_cons_zero,List.set_cons_succ,kZ,qY];rfl) (X:∀c b u,Q (.panic c) (b.put oi.dst v) u→Q (.panic c) b u:=by exact fun _ _ _ h=>h):kK P md ops Q S ds (fuel+1) (bts j m) a w:=
  HV _ hi Z (I5 D U G) X (.inl ⟨Y,I⟩) hS L h
theorem nrm(h:kK P md ops Q S ds fuel l a' w)(D:a=a':=by simp only[Act.put,List.setIfInBounds_toArray,List.set_cons_zero,List.set_cons_succ,kZ,qY];rfl):kK P md ops Q S ds fuel l a w:=Db D h
theorem skp(h:K a w1)(L:Region.wanted oi (yielded ops a.tmps)=true:=by rfl)(I:oi.dst=none:=by exact rfl)(D:∀z,z=w1→(execOp a.eval oi).run P w= .ok .skip z:=by intro z G;go_simp;first|exact G.symm|(subst G;rfl)):if Region.wanted oi (yielded ops a.tmps)=true then Oper.wp P oi a w K Q else K (a.put none undef) w:=Dw L I (D _ rfl) h
theorem dne(h:Q .normal a w)(D:sQ md ops=T:=by exact HT_.out)(G:(wQ T.2 l.toList==[])=true:=by kernel_rfl):kK P md ops Q S ds fuel l a w:=Mc (Kg D G) h
theorem onn (i:Nat) (N:Option Tmp) {m j:Nat}
    (h:∀K:Act→World→Prop,Shut (∀a' w',S w'→(S w'→kK P md ops Q S ds fuel (bts j (m+2^i)) a' w')→K a' w')→if Region.wanted oi (yielded ops a.tmps)=true then Oper.wp P oi a w K Q else K (a.put N undef) w)
    (D:sQ md ops=T:=by exact HT_.out) (hi:ops[i]?=some oi:=by exact rfl) (I:oi.dst=N:=by exact rfl) (G:(wQ T.2 (bts j m).toList==[i]&&(bts j m).toList.set i true==(bts j (m+2^i)).toList)=true:=by kernel_rfl) (hd:i∉ds:=by decide):kK P md ops Q S ds (fuel+1) (bts j m) a w:=MS _ hi I (Cm D G) hd h
theorem lst (i:Nat) (N:Option Tmp) {m j:Nat}
    (h:∀K:Act→World→Prop,Shut (∀a' w',kK P md ops Q S ds fuel (bts j (m+2^i)) a' w'→K a' w')→if Region.wanted oi (yielded ops a.tmps)=true then Oper.wp P oi a w K Q else K (a.put N undef) w)
    (D:sQ md ops=T:=by exact HT_.out) (hi:ops[i]?=some oi:=by exact rfl) (I:oi.dst=N:=by exact rfl) (G:(wQ T.2 (bts j m).toList==[i]&&(bts j m).toList.set i true==(bts j (m+2^i)).toList)=true:=by kernel_rfl) (hd:i∈ds:=by decide):kK P md ops Q S ds (fuel+1) (bts j m) a w:=L9 _ hi I (Cm D G) hd h
theorem gog {f:FuncId} {L:Func} (Z:P.funcs[f]?=some L) {U:Array Operand} {ts:Array TypeId} {args:Array Value} {R:Ending→World→Prop} (X:Calls P f args w R) (h:∀e w',R e w'→∃v,e= .returned v∧K (a.put N v) w')
    (hw:Region.wanted oi (yielded ops a.tmps)=true:=by rfl) (hN:oi.dst=N:=by exact rfl) (I:oi.op= .call {callee:= .value (.func f),args:=U,argTypes:=ts}:=by exact rfl) (G:(L.name== "runtime.NumGoroutine")=false:=by kernel_rfl) (Y:L.body.isSome=true:=by exact rfl)
    (D:U.map a.eval=args:=by(try simp only[List.map_toArray,List.map_cons,List.map_nil]);first|done|rfl|(simp only[List.length_drop,List.length_take];rfl)):if Region.wanted oi (yielded ops a.tmps)=true then Oper.wp P oi a w K Q else K (a.put N undef) w:=
  Ki Z G Y args hw hN I D (X.mono h)
end
end Go.Proofs.PW
namespace Go.Proofs.PL
section
variable {P:Program} {ops:Array Oper} {Q:Exit→Act→World→Prop} {md:Region.Mode} {S:World→Prop} {ds:List Nat} {T:Bool×List (List Nat×List Nat)}
theorem Cb{i j k m n:Nat}{l li lj lk X Y:Array Bool}(Z:sQ md ops=T)(h:(wQ T.2 l.toList==[i,j,k,m,n]&&l.toList.set i true==li.toList&&l.toList.set j true==lj.toList&&l.toList.set k true==lk.toList&&l.toList.set m true==X.toList&&l.toList.set n true==Y.toList)=true):(Region.ready md ops l==[i,j,k,m,n]&&l.setIfInBounds i true==li&&l.setIfInBounds j true==lj&&l.setIfInBounds k true==lk&&l.setIfInBounds m true==X&&l.setIfInBounds n true==Y)=true:=by
  simp only[Bool.and_eq_true]at h⊢;obtain⟨⟨⟨⟨⟨hr,D⟩,I⟩,G⟩,U⟩,L⟩:=h;subst Z;exact⟨⟨⟨⟨⟨by rw[ready_eq];exact hr,wU D⟩,wU I⟩,wU G⟩,wU U⟩,wU L⟩
end
end Go.Proofs.PL
namespace Go.Proofs.PW
open RowKit
namespace Kd
section
variable {α:Type} {d:Kd α} {W:World} {g n:Nat} {S ok:Nat→Prop} {A:Option Addr} {ad:Addr} {xs:List α}
end
end Kd
end Go.Proofs.PW
namespace Go.Proofs.PW
open RowKit
section
variable {w w' u:World} {m B g:Nat} {o:Obj} {row:Option Nat} {S:Nat→Prop} {a:Addr} {v:Value}
end
namespace Kd
section
variable {α:Type} {d:Kd α} {e base n m:Nat} {ok:Nat→Prop} {w w':World} {v:Value} {A:Option Addr} {xs:List α}
end
end Kd
end Go.Proofs.PW
namespace Go.Proofs.PW
open RowKit
section
variable {P:Program} {d:Nat} {xs ys:Array Value} {f:Field} {fs:List Field} {a b:Value} {r s:Bool} {w:World}
end
theorem qC.one{α:Type}{R:α→List Value→Prop}{ps:List α}{cs:List Value}{p:α}{v:Value}(G:R p [v])(h:qC R 1 ps cs):qC R 1 (p::ps) (v::cs):=by
  refine⟨by simp[h.1],fun j q D=>?_⟩;cases j with
  |zero=>
    simp only[List.getElem?_cons_zero,Option.some.injEq]at D;subst D;simpa using G
  |succ j=>
    simp only[List.getElem?_cons_succ]at D;have h1:=h.2 j q D;simpa[Nat.mul_one]using h1
theorem qC.front{α:Type}{R:α→List Value→Prop}{size:Nat}{ps:List α}{cs c D:List Value}{p:α}(U:R p c)(I:c.length=size)(h:qC R size ps cs)(L:c++cs=D):qC R size (p::ps) D:=by
  subst L;refine⟨by rw[List.length_append,I,h.1,List.length_cons,Nat.succ_mul,Nat.add_comm],fun j q G=>?_⟩;cases j with
  |zero=>
    simp only[List.getElem?_cons_zero,Option.some.injEq]at G;subst G;rw[Nat.zero_mul,List.drop_zero,List.take_append_of_le_length (by omega),List.take_of_length_le (by omega)];exact U
  |succ j=>
    simp only[List.getElem?_cons_succ]at G;have h1:=h.2 j q G;rw[Nat.succ_mul,List.drop_append,List.drop_of_length_le (by rw[I];exact Nat.le_add_left _ _),List.nil_append,I,Nat.add_sub_cancel];exact h1
theorem qC.c2{α:Type}{R:α→List Value→Prop}{ps:List α}{cs:List Value}{p:α}{G D:Value}(I:R p [G,D])(h:qC R 2 ps cs):qC R 2 (p::ps) (G::D::cs):=qC.front I rfl h rfl
theorem qC.c3{α:Type}{R:α→List Value→Prop}{ps:List α}{cs:List Value}{p:α}{G D I:Value}(L:R p [G,D,I])(h:qC R 3 ps cs):qC R 3 (p::ps) (G::D::I::cs):=qC.front L rfl h rfl
theorem qC.c4{α:Type}{R:α→List Value→Prop}{ps:List α}{cs:List Value}{p:α}{I D L G:Value}(U:R p [I,D,L,G])(h:qC R 4 ps cs):qC R 4 (p::ps) (I::D::L::G::cs):=qC.front U rfl h rfl
theorem qC.c5{α:Type}{R:α→List Value→Prop}{ps:List α}{cs:List Value}{p:α}{L G U I D:Value}(X:R p [L,G,U,I,D])(h:qC R 5 ps cs):qC R 5 (p::ps) (L::G::U::I::D::cs):=qC.front X rfl h rfl
theorem qC.c6{α:Type}{R:α→List Value→Prop}{ps:List α}{cs:List Value}{p:α}{U I X L G D:Value}(Y:R p [U,I,X,L,G,D])(h:qC R 6 ps cs):qC R 6 (p::ps) (U::I::X::L::G::D::cs):=qC.front Y rfl h rfl
theorem qC.c7{α:Type}{R:α→List Value→Prop}{ps:List α}{cs:List Value}{p:α}{X I Y U G D L:Value}(Z:R p [X,I,Y,U,G,D,L])(h:qC R 7 ps cs):qC R 7 (p::ps) (X::I::Y::U::G::D::L::cs):=qC.front Z rfl h rfl
theorem qC.c8{α:Type}{R:α→List Value→Prop}{ps:List α}{cs:List Value}{p:α}{Y I Z X G D L U:Value}(hp:R p [Y,I,Z,X,G,D,L,U])(h:qC R 8 ps cs):qC R 8 (p::ps) (Y::I::Z::X::G::D::L::U::cs):=qC.front hp rfl h rfl
theorem qC.c9{α:Type}{R:α→List Value→Prop}{ps:List α}{cs:List Value}{p:α}{Y I Z X G D L U vi:Value}(hp:R p [Y,I,Z,X,G,D,L,U,vi])(h:qC R 9 ps cs):qC R 9 (p::ps) (Y::I::Z::X::G::D::L::U::vi::cs):=qC.front hp rfl h rfl
theorem qC.c10{α:Type}{R:α→List Value→Prop}{ps:List α}{cs:List Value}{p:α}{Z I vc Y G D L X vi U:Value}(hp:R p [Z,I,vc,Y,G,D,L,X,vi,U])(h:qC R 10 ps cs):qC R 10 (p::ps) (Z::I::vc::Y::G::D::L::X::vi::U::cs):=qC.front hp rfl h rfl
end Go.Proofs.PW
namespace Go.Proofs.PL
def up(b:Nat→Bool)(i:Nat):Nat→Bool:=fun j=>if j=i then true else b j
section
variable {P:Program} {ops:Array Oper} {Q:Exit→Act→World→Prop} {md:Region.Mode} {T:Bool×List (List Nat×List Nat)} {B:List Nat} {O:List Nat} {b:Nat→Bool} {i j n:Nat}
end
end Go.Proofs.PL
namespace Go.Proofs.PW
open RowKit
end Go.Proofs.PW
namespace Go.Proofs.PL
section
variable {ops:Array Oper} {a:Act} {o og:Oper} {g:Nat} {t:Tmp} {u:Bool}
end
end Go.Proofs.PL
namespace Go.Proofs.PW
open RowKit
section
variable {P:Program} {ops:Array Oper} {rest:List Oper} {o:Oper} {a:Act} {Q:Exit→Act→World→Prop} {W:World}
theorem qg(D:Region.wanted o (yielded ops a.tmps)=true)(h:wpList P ops Q ({o with guard:=none}::rest) a W):wpList P ops Q (o::rest) a W:=by
  have h1:Region.wanted {o with guard:=none} (yielded ops a.tmps)=true:=rfl;unfold wpList at h⊢;rw[if_pos h1]at h;rw[if_pos D];exact h
end
end Go.Proofs.PW
