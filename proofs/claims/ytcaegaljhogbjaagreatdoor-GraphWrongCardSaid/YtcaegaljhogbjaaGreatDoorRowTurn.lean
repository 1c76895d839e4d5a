/- A parameter that holds slices of nodes, of flows, in a. -/
import Derived.Deep.Slices
import Derived.Lib.SmallJoins
import Derived.OpenShut
import Derived.Carry
import Derived.DataElems
import Derived.DataReads
import Derived.ChangeArms
import Derived.ProofKit
import Derived.Test.YtcaegaljhogbjaaGreatDoorYx0
set_option linter.unusedSimpArgs false
set_option linter.unusedVariables false
set_option maxRecDepth 100000
namespace Go.Proofs.Row
open ChangeShapes WideShapes ChangeAt RowKit PW Y
def okV(a b c d:Int)(s:ByteArray):Prop:=(Lit.int .i64 a).wf=true∧(Lit.int .i64 b).wf=true∧(Lit.int .i64 c).wf=true∧(Lit.int .i64 d).wf=true∧s.size≤maxLen
theorem LV{α:Type}(cs:List α)(h:cs.length=5):∃a b c d e,cs=[a,b,c,d,e]:=by
  match cs,h with
  |[a,b,c,d,e],_=>exact⟨a,b,c,d,e,rfl⟩
theorem Cb {H:Type} {enc:TypeId×Value→H} {w:World} {base:Nat} {D:Nat→Bool} {G:Bool} {fuel:Nat} {t:TypeId} {f0 f1 f2 f3 f4:Field} {cs:List Value} {x:DataW H×List MemPlace}
    (hs:Tryz.prog.underlying t=some (.struct #[f0,f1,f2,f3,f4])) (X:(f0.offset,f0.type)=(0,3)) (h1:(f1.offset,f1.type)=(1,3)) (h2:(f2.offset,f2.type)=(2,3)) (Y:(f3.offset,f3.type)=(3,3)) (Z:(f4.offset,f4.type)=(4,9))
    (hC:Tryz.prog.cellsOf t=5) (h:DataW.trod enc Tryz.prog w base D G fuel t cs=some x):
    ∃a b c d s,cs=[.int .i64 a, .int .i64 b, .int .i64 c, .int .i64 d, .string s]∧okV a b c d s:=by
  have L:Tryz.prog.cellsOf 3=1:=by kernel_rfl
  have U:Tryz.prog.cellsOf 9=1:=by kernel_rfl
  simp only[Prod.mk.injEq]at X h1 h2 Y Z;obtain⟨xs,n,_,_,hl,hx,I⟩:=DataW.trod_struct hs h;rw[hC]at hl;have aa:xs.length=5:=hx;have g0:=I 0 f0 rfl;have g1:=I 1 f1 rfl;have g2:=I 2 f2 rfl;have g3:=I 3 f3 rfl;have g4:=I 4 f4 rfl;rw[X.1,X.2,L,List.getElem?_eq_getElem (by omega)]at g0;rw[h1.1,h1.2,L,List.getElem?_eq_getElem (by omega)]at g1;rw[h2.1,h2.2,L,List.getElem?_eq_getElem (by omega)]at g2;rw[Y.1,Y.2,L,List.getElem?_eq_getElem (by omega)]at g3;rw[Z.1,Z.2,U,List.getElem?_eq_getElem (by omega)]at g4;obtain⟨a,e0,_,w0⟩:=DataW.trod_int Tryz.underlying3 g0;obtain⟨b,e1,_,w1⟩:=DataW.trod_int Tryz.underlying3 g1;obtain⟨c,e2,_,w2⟩:=DataW.trod_int Tryz.underlying3 g2;obtain⟨d,e3,_,w3⟩:=DataW.trod_int Tryz.underlying3 g3;obtain⟨s,e4,_,w4⟩:=DataW.trod_string Tryz.underlying9 g4;obtain⟨_,_,_,_,_,rfl⟩:=LV cs hl;simp at e0 e1 e2 e3 e4;subst e0 e1 e2 e3 e4;exact⟨a,b,c,d,s,rfl,w0,w1,w2,w3,w4⟩
theorem EG {H:Type} {enc:TypeId×Value→H} {w:World} {base:Nat} {L:Nat→Bool} {U:Bool} {fuel:Nat} {A:Option Addr} {len cap:Nat} {x:DataW H×List MemPlace}
    (h:DataW.trod enc Tryz.prog w base L U fuel 22 [.slice A len cap]=some x):∃l:List S38,len=l.length∧l.length≤cap∧Kd.C k38 w A l.length l∧∀n∈l,okV n.f0 n.f1 n.f2 n.f3 n.f4:=by
  rcases Deep.open_slice Tryz.underlying22 h with⟨D,hx⟩|⟨a,_,_,m,n,_,_,D,_,hl,hm,Z,hx,ab⟩
  · simp at D
    obtain⟨rfl,rfl,rfl⟩:=D;exact⟨[],rfl,Nat.zero_le _,⟨rfl,by simp,fun h=>absurd h (by simp)⟩,by simp⟩
  · simp at D
    obtain⟨rfl,rfl,rfl⟩:=D;(have ae:len≤m:=by rw[Z];split<;>omega);have X:∀i,i<len→∃p:S38,okV p.f0 p.f1 p.f2 p.f3 p.f4∧∀(j:Nat) u,([.int .i64 p.f0, .int .i64 p.f1, .int .i64 p.f2, .int .i64 p.f3, .string p.f4]:List Value)[j]?=some u→w.cell? (a.add (i*5+j))=some u:=by
      intro i hi;obtain⟨_,h1,h2⟩:=ab i (by omega);(have hC:Tryz.prog.cellsOf 38=5:=by kernel_rfl);rw[hC]at h1;obtain⟨_,_,hc⟩:=World.cells?_some h1;obtain⟨f0,f1,f2,f3,f4,rfl,ok⟩:=Cb Tryz.underlying38 rfl rfl rfl rfl rfl hC h2;refine⟨⟨f0,f1,f2,f3,f4⟩,ok,fun j u I=>?_⟩;have aa:j<5:=(List.getElem?_eq_some_iff.1 I).1;rw[←Addr.add_add,hc j aa];exact I
    haveI:Inhabited S38:=⟨z38⟩
    obtain⟨f,hf⟩:=Deep.choose_lt X;(have G:((List.range len).map f).length=len:=by simp);refine⟨(List.range len).map f,G.symm,by rw[G];exact hl,⟨rfl,by rw[G];unfold maxLen at hm;omega,fun _=>⟨a,rfl,fun j p I=>?_⟩⟩,?_⟩
    · have Y:j<len:=by
        have:=(List.getElem?_eq_some_iff.1 I).1;rw[G]at this;exact this
      have hp:p=f j:=by
        rw[List.getElem?_map,List.getElem?_range Y]at I;exact(Option.some.inj I).symm
      subst hp
      exact⟨_,rfl,KW w (f j),fun i u hi=>(hf j Y).2 i u hi⟩
    · intro n hn
      obtain⟨j,I,rfl⟩:=List.mem_map.1 hn;exact(hf j (List.mem_range.1 I)).1
theorem Ew {H:Type} {enc:TypeId×Value→H} {w:World} {base:Nat} {L:Nat→Bool} {U:Bool} {fuel:Nat} {A:Option Addr} {len cap:Nat} {x:DataW H×List MemPlace}
    (h:DataW.trod enc Tryz.prog w base L U fuel 23 [.slice A len cap]=some x):∃l:List S40,len=l.length∧l.length≤cap∧Kd.C k40 w A l.length l∧∀n∈l,okV n.f0 n.f1 n.f2 n.f3 n.f4:=by
  rcases Deep.open_slice Tryz.underlying23 h with⟨D,hx⟩|⟨a,_,_,m,n,_,_,D,_,hl,hm,Z,hx,ab⟩
  · simp at D
    obtain⟨rfl,rfl,rfl⟩:=D;exact⟨[],rfl,Nat.zero_le _,⟨rfl,by simp,fun h=>absurd h (by simp)⟩,by simp⟩
  · simp at D
    obtain⟨rfl,rfl,rfl⟩:=D;(have ae:len≤m:=by rw[Z];split<;>omega);have X:∀i,i<len→∃p:S40,okV p.f0 p.f1 p.f2 p.f3 p.f4∧∀(j:Nat) u,([.int .i64 p.f0, .int .i64 p.f1, .int .i64 p.f2, .int .i64 p.f3, .string p.f4]:List Value)[j]?=some u→w.cell? (a.add (i*5+j))=some u:=by
      intro i hi;obtain⟨_,h1,h2⟩:=ab i (by omega);(have hC:Tryz.prog.cellsOf 40=5:=by kernel_rfl);rw[hC]at h1;obtain⟨_,_,hc⟩:=World.cells?_some h1;obtain⟨f0,f1,f2,f3,f4,rfl,ok⟩:=Cb Tryz.underlying40 rfl rfl rfl rfl rfl hC h2;refine⟨⟨f0,f1,f2,f3,f4⟩,ok,fun j u I=>?_⟩;have aa:j<5:=(List.getElem?_eq_some_iff.1 I).1;rw[←Addr.add_add,hc j aa];exact I
    haveI:Inhabited S40:=⟨z40⟩
    obtain⟨f,hf⟩:=Deep.choose_lt X;(have G:((List.range len).map f).length=len:=by simp);refine⟨(List.range len).map f,G.symm,by rw[G];exact hl,⟨rfl,by rw[G];unfold maxLen at hm;omega,fun _=>⟨a,rfl,fun j p I=>?_⟩⟩,?_⟩
    · have Y:j<len:=by
        have:=(List.getElem?_eq_some_iff.1 I).1;rw[G]at this;exact this
      have hp:p=f j:=by
        rw[List.getElem?_map,List.getElem?_range Y]at I;exact(Option.some.inj I).symm
      subst hp
      exact⟨_,rfl,KH w (f j),fun i u hi=>(hf j Y).2 i u hi⟩
    · intro n hn
      obtain⟨j,I,rfl⟩:=List.mem_map.1 hn;exact(hf j (List.mem_range.1 I)).1
theorem zX {H:Type} {enc:TypeId×Value→H} {w:World} {base:Nat} {G:Nat→Bool} {L:Bool} {fuel:Nat} {t e:TypeId} {v:Value} {x:DataW H×List MemPlace} (ht:Tryz.prog.underlying t=some (.slice e))
    (h:DataW.trod enc Tryz.prog w base G L fuel t [v]=some x):∃A n c,v= .slice A n c:=by
  rcases Deep.open_slice ht h with⟨D,_⟩|⟨a,U,I,m,n,_,_,D,_⟩
  · exact⟨none,0,0,by simpa using D⟩
  · exact⟨some a,U,I,by simpa using D⟩
theorem Je {H:Type} {enc:TypeId×Value→H} {w:World} {base:Nat} {D:Nat→Bool} {G:Bool} {r:Reach} {U:Nat} {v:Value} {d:DataW H} {p:List MemPlace}
    (Z:Value.okWide Tryz.prog w r U 25 v) (h:DataW.Trod enc Tryz.prog w base D G 25 v d p):
    ∃(nm:ByteArray) (A1:Option Addr) (c1:Nat) (l1:List S38) (A2:Option Addr) (c2:Nat) (l2:List S40),v= .agg #[.string nm, .slice A1 l1.length c1, .slice A2 l2.length c2]∧
      Kd.C k38 w A1 l1.length l1∧l1.length≤c1∧Kd.C k40 w A2 l2.length l2∧l2.length≤c2∧(∀n∈l1,okV n.f0 n.f1 n.f2 n.f3 n.f4)∧∀n∈l2,okV n.f0 n.f1 n.f2 n.f3 n.f4:=by
  obtain⟨_,_,_,_,_,_,n,rfl,_,_,L,h1,h2⟩:=Joins.open_agg3 Tryz.underlying25 (by kernel_rfl) (by kernel_rfl) Z h;obtain⟨nm,I,_,_⟩:=DataW.trod_string Tryz.underlying9 L;simp at I;subst I;obtain⟨A1,m1,c1,rfl⟩:=zX Tryz.underlying22 h1;obtain⟨A2,m2,c2,rfl⟩:=zX Tryz.underlying23 h2;obtain⟨l1,rfl,g1,X,g3⟩:=EG h1;obtain⟨l2,rfl,k1,k2,Y⟩:=Ew h2;exact⟨nm,A1,c1,l1,A2,c2,l2,rfl,X,g1,k2,k1,g3,Y⟩
theorem GI {H:Type} {enc:TypeId×Value→H} {w:World} {base:Nat} {D:Nat→Bool} {G:Bool} {r:Reach} {Z:Nat} {v:Value} {d:DataW H} {p:List MemPlace}
    (hv:Value.okWide Tryz.prog w r Z 32 v) (h:DataW.Trod enc Tryz.prog w base D G 32 v d p):
    ∃(a b c:Int) (s:ByteArray),v= .agg #[.int .i64 a, .int .i64 b, .int .i64 c, .string s]:=by
  obtain⟨_,_,_,_,_,_,_,_,n,rfl,_,_,Y,h1,h2,h3⟩:=Joins.open_agg4 Tryz.underlying32 (by kernel_rfl) (by kernel_rfl) hv h;obtain⟨a,X,_⟩:=DataW.trod_int Tryz.underlying3 Y;obtain⟨b,U,_⟩:=DataW.trod_int Tryz.underlying3 h1;obtain⟨c,L,_⟩:=DataW.trod_int Tryz.underlying3 h2;obtain⟨s,I,_⟩:=DataW.trod_string Tryz.underlying9 h3;simp at X U L I;subst X U L I;exact⟨a,b,c,s,rfl⟩
end Go.Proofs.Row
