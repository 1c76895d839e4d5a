/- Maps with whole numbers as keys and slices as elements. -/
import Derived.MapKept
import Derived.ChangeMaps5
import Derived.Test.YtcaegaljhogbjaaGreatDoorGraphSpec
set_option linter.unusedSimpArgs false
set_option linter.unusedVariables false
namespace Go.Proofs.Gr
open RowKit Lib Go.Sort PW PL PM Y Gd
open ChangeMaps (setBlock heap_setBlock_same heap_setBlock_other)
open Classical in
noncomputable def look:List MapEntry→Int→Value
  |[],_=> .slice none 0 0
  |e::es,x=>if e.key= .int .i64 x then e.val else look es x
theorem BJ{x:Int}:∀{es:List MapEntry},(∀e∈es,e.key≠ .int .i64 x)→look es x= .slice none 0 0
  |[],_=>rfl
  |e::es,h=>by rw[look,if_neg (h e (List.mem_cons_self ..))];exact BJ (fun e' D=>h e' (List.mem_cons_of_mem _ D))
theorem Br(x:Int):∀(es:List MapEntry) (i:Nat),(∀e∈es,∃z,e.key= .int .i64 z)→
    (Instr.findNow (.int .i64) (.int .i64 x) es i=some none∧(∀e∈es,e.key≠ .int .i64 x))∨
    ∃j e,Instr.findNow (.int .i64) (.int .i64 x) es i=some (some (i+j,look es x))∧es[j]?=some e∧e.key= .int .i64 x∧
      ∀(v:Value) (y:Int),look (es.set j ⟨.int .i64 x,v,e.born⟩) y=if y=x then v else look es y
  |[],i,_=>Or.inl ⟨rfl,by simp⟩
  |e::es,i,h=>by
    obtain⟨z,I⟩:=h e (List.mem_cons_self ..)
    by_cases c:x=z
    · subst c
      refine Or.inr ⟨0,e,by simp[Instr.findNow,Instr.sameNow,I,look],rfl,I,fun v y=>?_⟩;by_cases d:y=x
      · subst d;simp[look]
      · simp[look,I,d,Ne.symm d]
    · have hs:Instr.sameNow (.int .i64) (.int .i64 x) e.key=some false:=by simp[Instr.sameNow,I,c]
      (have D:e.key≠ .int .i64 x:=by rw[I];intro L;cases L;exact c rfl);rcases Br x es (i+1) (fun e' G=>h e' (List.mem_cons_of_mem _ G))with⟨h1,h2⟩|⟨j,e',h1,h2,U,X⟩
      · refine Or.inl ⟨by simp[Instr.findNow,hs,h1],fun e' G=>?_⟩
        rcases List.mem_cons.mp G with rfl|G
        · exact D
        · exact h2 e' G
      · refine Or.inr ⟨j+1,e',by simp[Instr.findNow,hs,h1,look,D];omega,by simpa using h2,U,fun v y=>?_⟩
        simp only[List.set_cons_succ,look,X v y];by_cases d:y=x
        · subst d;simp[D]
        · simp[d]
theorem BI{x:Int}{v:Value}{c:Nat}(y:Int):∀{es:List MapEntry},(∀e∈es,e.key≠ .int .i64 x)→look (es++[⟨.int .i64 x,v,c⟩]) y=if y=x then v else look es y
  |[],_=>by
    by_cases d:y=x
    · subst d;simp[look]
    · simp[look,d,Ne.symm d]
  |e::es,h=>by
    simp only[List.cons_append,look,BI y (es:=es) (fun e' D=>h e' (List.mem_cons_of_mem _ D))]
    by_cases d:y=x
    · subst d;simp[h e (List.mem_cons_self ..)]
    · simp[d]
def upd{α β:Type}[DecidableEq α](f:α→β)(x:α)(v:β):α→β:=fun y=>if y=x then v else f y
def Mp(w:World)(b:Nat)(f:Int→Value):Prop:=∃es D,w.heap[b]?=some (.map es D)∧(∀e∈es.toList,∃z,e.key= .int .i64 z)∧∀x,look es.toList x=f x
theorem Mp.keep{w w':World}{b:Nat}{f:Int→Value}(h:Mp w b f)(G:w'.heap[b]?=w.heap[b]?):Mp w' b f:=by
  obtain⟨es,c,h1,h2,D⟩:=h;exact⟨es,c,G.trans h1,h2,D⟩
theorem Mp.lt{w:World}{b:Nat}{f:Int→Value}(h:Mp w b f):b<w.heap.size:=by
  obtain⟨es,c,h1,_⟩:=h;exact(Array.getElem?_eq_some_iff.1 h1).1
theorem Mp.below{w w':World}{b:Nat}{f:Int→Value}(h:Mp w b f)(D:Below w.heap.size w w'):Mp w' b f:=h.keep (D.block b h.lt)
theorem Mp.new(w:World):Mp (w.alloc (.map #[] 0)) w.heap.size (fun _=> .slice none 0 0):=⟨#[],0,(MapKept.heap_alloc w _).1,by simp,fun _=>rfl⟩
section
variable {P:Program} {t k E:TypeId} (ht:P.underlying t=some (.map k E)) (hk:P.underlying k=some (.int .i64))
include ht hk
theorem Mp.look(U:∀W,(zeroValue E).run P W= .ok (.slice none 0 0) W){w:World}{b:Nat}{f:Int→Value}(h:Mp w b f)(x:Int):(Instr.lookup t (.map (some b)) (.int .i64 x) false).run P w= .ok (f x) w:=by
  obtain⟨es,c,I,hi,L⟩:=h;have D:=MapKept.run_checkKey (w:=w) (k:= .int .i64 x) hk (by simp[MapKept.IsKey]) es.isEmpty 9999;rcases Br x es.toList 0 hi with⟨h1,h2⟩|⟨j,e,h1,h2,_,_⟩
  · have G:=L x
    rw[BJ h2]at G;rw[←G];simp[Instr.lookup,run_underlying ht,MapKept.run_getObj_map I,D,MapKept.run_findKey hk h1,U,Result.andThen]
  · have G:=L x
    rw[←G];simp[Instr.lookup,run_underlying ht,MapKept.run_getObj_map I,D,MapKept.run_findKey hk h1,Result.andThen]
theorem Mp.store{w:World}{b:Nat}{f:Int→Value}(h:Mp w b f)(x:Int)(v:Value):
    ∃Y,(Instr.mapUpdate t (.map (some b)) (.int .i64 x) v).run P w= .ok () Y∧Mp Y b (upd f x v)∧w.grownBy Y (some b):=by
  obtain⟨es,c,I,hi,Z⟩:=h;have L:MapKept.IsKey (.int .i64) (.int .i64 x):=by simp[MapKept.IsKey]
  have U:=MapKept.run_checkKey (w:=w) (k:= .int .i64 x) hk L false 9999;rcases Br x es.toList 0 hi with⟨h1,h2⟩|⟨j,e,h1,h2,h3,h4⟩
  · refine ⟨setBlock w b (.map (es.push ⟨.int .i64 x, v, c⟩) (c + 1)), by simp [Instr.mapUpdate, run_underlying ht, MapKept.run_getObj_map I, U, MapKept.run_findKey hk h1, MapKept.run_setObj_map _ I, Result.andThen, setBlock],
      ⟨_,_,heap_setBlock_same I _,?_,fun y=>?_⟩,⟨rfl,rfl,rfl,by simp[setBlock],fun i _ hi=>heap_setBlock_other I _ (fun X=>hi (by rw[X]))⟩⟩
    · intro e G
      simp only[Array.toList_push,List.mem_append,List.mem_singleton]at G;rcases G with G|rfl
      · exact hi e G
      · exact⟨x,rfl⟩
    · rw[Array.toList_push,BI y h2,Z y]
      rfl
  · have hj:es[j]?=some e:=by simpa using h2
    (have D:(es.modify j (fun e'=>{e' with key:= .int .i64 x,val:=v})).toList=es.toList.set j ⟨.int .i64 x,v,e.born⟩:=by rw[Array.toList_modify,ChangeMaps.modify_eq_set _ _ _ _ h2]);refine⟨setBlock w b (.map (es.modify j (fun e'=>{e' with key:= .int .i64 x,val:=v})) c),?_,⟨_,_,heap_setBlock_same I _,?_,fun y=>?_⟩,⟨rfl,rfl,rfl,by simp[setBlock],fun i _ hi=>heap_setBlock_other I _ (fun X=>hi (by rw[X]))⟩⟩
    · simp[Instr.mapUpdate,run_underlying ht,MapKept.run_getObj_map I,U,MapKept.run_findKey hk h1,hj,h3,MapKept.run_keyThatStays L,MapKept.run_setObj_map _ I,Result.andThen,setBlock]
    · intro e' G
      rw[D]at G;rcases List.mem_or_eq_of_mem_set G with G|rfl
      · exact hi e' G
      · exact⟨x,rfl⟩
    · rw[D,h4 v y,Z y]
      rfl
end
def Rows(w:World)(e:TypeId)(base:Nat)(F:Bool×Int→Value)(c:Bool×Int→Nat):Prop:=
  (∀p,∃xs,w.ownsRow base e 1 (F p) (c p) xs)∧∀p q,p≠q→(F p).ownBlock=none∨(F p).ownBlock≠(F q).ownBlock
theorem Rows.new(w:World)(e:TypeId)(base:Nat):Rows w e base (fun _=> .slice none 0 0) (fun _=>0):=⟨fun _=>⟨[],World.ownsRow_nil _ _ _ _⟩,fun _ _ _=>Or.inl rfl⟩
theorem Rows.keep{w w':World}{e:TypeId}{base:Nat}{F:Bool×Int→Value}{c:Bool×Int→Nat}{row:Option Nat}(h:Rows w e base F c)(L:w.grownBy w' row)(I:∀g,row=some g→g<base):Rows w' e base F c:=
  ⟨fun p=>by
    obtain⟨xs,D⟩:=h.1 p
    refine⟨xs,D.kept L ?_⟩
    cases hb:(F p).ownBlock with
    |none=>exact Or.inl rfl
    |some g=>exact Or.inr (fun G=>by have:=I g G.symm;have:=(D.lt g hb).1;omega),h.2⟩
theorem Rows.append {w w':World} {e:TypeId} {base:Nat} {F:Bool×Int→Value} {c:Bool×Int→Nat} (h:Rows w e base F c) (p:Bool×Int) (Z:w.grownBy w' (F p).ownBlock) {v:Value} {xs:List Value} (Y:w'.ownsRow base e 1 v (c p+1) xs)
    (hl:v.ownBlock=(F p).ownBlock∨∃g,v.ownBlock=some g∧w.heap.size≤g):Rows w' e base (upd F p v) (upd c p (c p+1)):=by
  have far:∀q,q≠p→(F q).ownBlock=none∨(F q).ownBlock≠v.ownBlock:=fun q X=>by
    rcases hl with D|⟨g,D,hge⟩
    · rw[D];exact h.2 q p X
    · obtain⟨xs,U⟩:=h.1 q
      cases hb:(F q).ownBlock with
      |none=>exact Or.inl rfl
      |some g'=>exact Or.inr (fun I=>by rw[D]at I;have e3:=Option.some.inj I;have:=(U.lt g' hb).2;omega)
  refine⟨fun q=>?_,fun q r G=>?_⟩
  · by_cases d:q=p
    · subst d
      exact⟨xs,by simpa[upd]using Y⟩
    · obtain⟨ys,L⟩:=h.1 q
      exact⟨ys,by simpa[upd,d]using L.kept Z (h.2 q p d)⟩
  · by_cases d:q=p
    · subst d
      have d':r≠q:=fun D=>G D.symm;simp only[upd,if_pos,if_neg d'];rcases far r d' with D|D
      · rw[D]
        cases v.ownBlock with
        |none=>exact Or.inl rfl
        |some g=>exact Or.inr (by simp)
      · exact Or.inr (fun I=>D I.symm)
    · by_cases d':r=p
      · subst d'
        simp only[upd,if_pos,if_neg d];exact far q d
      · simp only[upd,if_neg d,if_neg d']
        exact h.2 q r G
theorem Rows.form{w:World}{e:TypeId}{base:Nat}{F:Bool×Int→Value}{c:Bool×Int→Nat}(h:Rows w e base F c)(p:Bool×Int):∃A cap,F p= .slice A (c p) cap:=by
  obtain⟨xs,G⟩:=h.1 p;rcases G.2 with⟨D,I⟩|⟨g,cap,_,D,_⟩
  · exact⟨none,0,by rw[D,I]⟩
  · exact⟨_,cap,D⟩
theorem rT(n:Nat)(h:n≤200000000000000):wrap64 ((n:Int)+1)=((n+1:Nat):Int):=by unfold wrap64;omega
def cnt(l:List S40)(p:Bool×Int):Nat:=(l.filter (fun f=>decide ((if p.1 then f.f0 else f.f1)=p.2))).length
theorem Iz(l:List S40)(f:S40):cnt (l++[f])=upd (upd (cnt l) (false,f.f1) (cnt l (false,f.f1)+1)) (true,f.f0) (upd (cnt l) (false,f.f1) (cnt l (false,f.f1)+1) (true,f.f0)+1):=by
  funext ⟨b,x⟩
  cases b
  · by_cases h:f.f1=x
    · subst h;simp[cnt,upd]
    · simp[cnt,upd,h,Ne.symm h]
  · by_cases h:f.f0=x
    · subst h;simp[cnt,upd]
    · simp[cnt,upd,h,Ne.symm h]
theorem CG(l:List S40)(p:Bool×Int):cnt l p≤l.length:=List.length_filter_le _ _
def OI(w:World)(s:ByteArray)(v1 v2:Value)(F:Bool×Int→Value)(c:Bool×Int→Nat)(wr:World):Prop:=
  eD (Below w.heap.size w wr)∧eD (w.heap.size+5≤wr.heap.size)∧eD (wr.heap[w.heap.size]?=some (.cells #[.string s,v1,v2] 25 (0,0)))∧
  eD (wr.heap[w.heap.size+1]?=some (.cells #[.string ByteArray.empty, .slice none 0 0, .slice none 0 0, .map none, .map none] 53 (0,0)))∧
  eD (wr.heap[w.heap.size+4]?=some (.cells #[.string s,v1,v2, .map (some (w.heap.size+2)), .map (some (w.heap.size+3))] 53 (0,0)))∧
  eD (Mp wr (w.heap.size+2) (fun x=>F (false,x)))∧eD (Mp wr (w.heap.size+3) (fun x=>F (true,x)))∧eD (Rows wr 3 (w.heap.size+5) F c)
theorem OI.new(w:World)(s:ByteArray)(v1 v2:Value):OI w s v1 v2 (fun _=> .slice none 0 0) (cnt ([].take 0))
    (((((w.alloc (.cells #[.string s,v1,v2] 25)).alloc (.cells #[.string ByteArray.empty, .slice none 0 0, .slice none 0 0, .map none, .map none] 53)).alloc (.map #[] 0)).alloc (.map #[] 0)).alloc
      (.cells #[.string s,v1,v2, .map (some (w.heap.size+2)), .map (some (w.heap.size+3))] 53)):=by
  generalize e1:w.alloc (.cells #[.string s,v1,v2] 25)=Y;have s1:Y.heap.size=w.heap.size+1:=by rw[←e1];simp
  have x1:Y.heap[w.heap.size]?=some (.cells #[.string s,v1,v2] 25 (0,0)):=by rw[←e1];exact qF _ _
  have g1:Below w.heap.size w Y:=by rw[←e1];exact eX (Below.refl _ _) _
  generalize e2:Y.alloc (.cells #[.string ByteArray.empty, .slice none 0 0, .slice none 0 0, .map none, .map none] 53)=L;have s2:L.heap.size=w.heap.size+2:=by rw[←e2];simp[s1]
  have x2:L.heap[w.heap.size+1]?=some (.cells #[.string ByteArray.empty, .slice none 0 0, .slice none 0 0, .map none, .map none] 53 (0,0)):=by rw[←e2,←s1];exact qF _ _
  have U:=(Below.heap_alloc Y (.cells #[.string ByteArray.empty, .slice none 0 0, .slice none 0 0, .map none, .map none] 53) w.heap.size (by omega)).trans x1;have g2:Below w.heap.size w L:=by rw[←e2];exact g1.alloc (by omega) _
  rw[e2]at U;generalize e3:L.alloc (.map #[] 0)=wc;have s3:wc.heap.size=w.heap.size+3:=by rw[←e3];simp[s2]
  have m1:Mp wc (w.heap.size+2) (fun _=> .slice none 0 0):=by rw[←e3,←s2];exact Mp.new _
  have X:∀k,k<w.heap.size+2→wc.heap[k]?=L.heap[k]?:=fun k hk=>by rw[←e3];exact Below.heap_alloc _ _ _ (by omega)
  have g3:Below w.heap.size w wc:=by rw[←e3];exact g2.alloc (by omega) _
  generalize Z:wc.alloc (.map #[] 0)=I;have s4:I.heap.size=w.heap.size+4:=by rw[←Z];simp[s3]
  have m2:Mp I (w.heap.size+3) (fun _=> .slice none 0 0):=by rw[←Z,←s3];exact Mp.new _
  have G:∀k,k<w.heap.size+3→I.heap[k]?=wc.heap[k]?:=fun k hk=>by rw[←Z];exact Below.heap_alloc _ _ _ (by omega)
  have g4:Below w.heap.size w I:=by rw[←Z];exact g3.alloc (by omega) _
  have D:∀o k,k<w.heap.size+4→(I.alloc o).heap[k]?=I.heap[k]?:=fun o k hk=>Below.heap_alloc _ _ _ (by omega);have hc:(cnt ([].take 0))=fun _=>0:=by funext p;rfl
  rw[hc]
  exact ⟨⟨g4.alloc (by omega) _⟩, ⟨by simp [s4]⟩, ⟨by rw [D _ _ (by omega), G _ (by omega), X _ (by omega)]; exact U⟩, ⟨by rw [D _ _ (by omega), G _ (by omega), X _ (by omega)]; exact x2⟩,
    ⟨by rw[←s4];exact qF _ _⟩,⟨(m1.keep (G _ (by omega))).keep (D _ _ (by omega))⟩,⟨m2.keep (D _ _ (by omega))⟩,⟨Rows.new _ _ _⟩⟩
section
variable {w wr wr':World} {s:ByteArray} {v1 v2:Value} {F:Bool×Int→Value} {c:Bool×Int→Nat}
theorem OI.up(h:OI w s v1 v2 F c wr)(G:wr.grownBy wr' none):OI w s v1 v2 F c wr':=by
  obtain⟨⟨Z⟩,⟨L⟩,⟨I⟩,⟨a4⟩,⟨X⟩,⟨U⟩,⟨Y⟩,⟨a8⟩⟩:=h;have D:∀k,k<wr.heap.size→wr'.heap[k]?=wr.heap[k]?:=fun k hk=>G.block k hk (by simp);exact⟨⟨Z.grown G (by omega) (by simp)⟩,⟨Nat.le_trans L G.size⟩,⟨(D _ (by omega)).trans I⟩,⟨(D _ (by omega)).trans a4⟩,⟨(D _ (by omega)).trans X⟩,⟨U.keep (D _ (by omega))⟩,⟨Y.keep (D _ (by omega))⟩,⟨a8.keep G (by simp)⟩⟩
theorem OI.alloc(h:OI w s v1 v2 F c wr)(o:Obj):OI w s v1 v2 F c (wr.alloc o):=h.up (World.grownBy_alloc _ _ none)
theorem OI.drew(h:OI w s v1 v2 F c wr):OI w s v1 v2 F c wr.drew:=h.up ⟨rfl,rfl,rfl,Nat.le_refl _,fun _ _ _=>rfl⟩
def OJ(w:World)(s:ByteArray)(v1 v2:Value)(hs:Nat)(fs:Array Value)(F:Bool×Int→Value)(c:Bool×Int→Nat)(wr:World):Prop:=
  OI w s v1 v2 F c wr∧eD (wr.heap[hs]?=some (.cells fs 40 (0,0)))∧eD (∀p,(F p).ownBlock≠some hs)∧eD (w.heap.size+5≤hs)
theorem OI.flow(h:OI w s v1 v2 F c wr)(fs:Array Value):OJ w s v1 v2 wr.heap.size fs F c (wr.alloc (.cells fs 40)):=
  ⟨h.alloc _,⟨qF _ _⟩,⟨fun p e=>by obtain⟨xs,D⟩:=h.2.2.2.2.2.2.2.out.1 p;have:=(D.lt _ e).2;omega⟩,h.2.1⟩
variable {hs:Nat} {fs:Array Value}
theorem OJ.up(h:OJ w s v1 v2 hs fs F c wr)(D:wr.grownBy wr' none):OJ w s v1 v2 hs fs F c wr':=
  ⟨h.1.up D,⟨(D.block hs (Array.getElem?_eq_some_iff.1 h.2.1.out).1 (by simp)).trans h.2.1.out⟩,h.2.2.1,h.2.2.2⟩
theorem OJ.alloc(h:OJ w s v1 v2 hs fs F c wr)(o:Obj):OJ w s v1 v2 hs fs F c (wr.alloc o):=h.up (World.grownBy_alloc _ _ none)
theorem OJ.drew(h:OJ w s v1 v2 hs fs F c wr):OJ w s v1 v2 hs fs F c wr.drew:=h.up ⟨rfl,rfl,rfl,Nat.le_refl _,fun _ _ _=>rfl⟩
theorem Cq(W:World):(zeroValue 36).run Tryz.prog W= .ok (.slice none 0 0) W:=by kernel_rfl
def mpb(w:World)(b:Bool):Nat:=if b then w.heap.size+3 else w.heap.size+2
theorem OJ.look(h:OJ w s v1 v2 hs fs F c wr)(p:Bool×Int):(Instr.lookup 51 (.map (some (mpb w p.1))) (.int .i64 p.2) false).run Tryz.prog wr= .ok (F p) wr:=by
  obtain⟨⟨_,_,_,_,_,⟨D⟩,⟨G⟩,_⟩,_⟩:=h;obtain⟨b,x⟩:=p;cases b
  · exact Mp.look Tryz.underlying51 Tryz.underlying3 Cq D x
  · exact Mp.look Tryz.underlying51 Tryz.underlying3 Cq G x
theorem OJ.cells(h:OJ w s v1 v2 hs fs F c wr):(wr.cell? ⟨w.heap.size+4,3,none⟩=some (.map (some (w.heap.size+2)))∧wr.cell? ⟨w.heap.size+4,4,none⟩=some (.map (some (w.heap.size+3))))∧∀j,wr.cell? ⟨hs,j,none⟩=fs[j]?:=
  ⟨⟨(iF h.1.2.2.2.2.1.out 3).trans rfl,(iF h.1.2.2.2.2.1.out 4).trans rfl⟩,fun j=>iF h.2.1.out j⟩
theorem OJ.s5{a b c' d e:Value}(h:OJ w s v1 v2 hs #[a,b,c',d,e] F c wr):wr.cell? ⟨w.heap.size+4,3,none⟩=some (.map (some (w.heap.size+2)))∧wr.cell? ⟨hs,1,none⟩=some b:=⟨h.cells.1.1,h.cells.2 1⟩
theorem OJ.s6{a b c' d e:Value}(h:OJ w s v1 v2 hs #[a,b,c',d,e] F c wr):wr.cell? ⟨w.heap.size+4,4,none⟩=some (.map (some (w.heap.size+3)))∧wr.cell? ⟨hs,0,none⟩=some a:=⟨h.cells.1.2,h.cells.2 0⟩
theorem OJ.push {X w1:World} (h:OJ w s v1 v2 hs fs F c X) (p:Bool×Int) (Z:X.grownBy w1 (F p).ownBlock) {v:Value} {xs:List Value} (hv:w1.ownsRow (w.heap.size+5) 3 1 v (c p+1) xs)
    (hl:v.ownBlock=(F p).ownBlock∨∃g,v.ownBlock=some g∧X.heap.size≤g):
    ((w1.cell? ⟨w.heap.size+4,3,none⟩=some (.map (some (w.heap.size+2)))∧w1.cell? ⟨w.heap.size+4,4,none⟩=some (.map (some (w.heap.size+3))))∧∀j,w1.cell? ⟨hs,j,none⟩=fs[j]?)∧
    ∃D,(Instr.mapUpdate 51 (.map (some (mpb w p.1))) (.int .i64 p.2) v).run Tryz.prog w1= .ok () D∧OJ w s v1 v2 hs fs (upd F p v) (upd c p (c p+1)) D:=by
  obtain⟨⟨⟨a1⟩,⟨_⟩,⟨a3⟩,⟨a4⟩,⟨a5⟩,⟨a6⟩,⟨a7⟩,⟨a8⟩⟩,⟨b1⟩,⟨b2⟩,⟨b3⟩⟩:=h;have I:∀g,(F p).ownBlock=some g→w.heap.size+5≤g:=fun g e=>by obtain⟨_,hy⟩:=a8.1 p;exact(hy.lt g e).1
  have U:∀k,k<w.heap.size+5→w1.heap[k]?=X.heap[k]?:=fun k hk=>Z.block k (by omega) (fun e=>by have:=I k e.symm;omega);have Y:w1.heap[hs]?=X.heap[hs]?:=Z.block hs (Array.getElem?_eq_some_iff.1 b1).1 (fun e=>b2 p e.symm);have r1:Rows w1 3 (w.heap.size+5) (upd F p v) (upd c p (c p+1)):=a8.append p Z hv hl;have m6:=a6.keep (U (w.heap.size+2) (by omega));have m7:=a7.keep (U (w.heap.size+3) (by omega));refine⟨⟨⟨(iF ((U _ (by omega)).trans a5) 3).trans rfl,(iF ((U _ (by omega)).trans a5) 4).trans rfl⟩,fun j=>iF (Y.trans b1) j⟩,?_⟩;have aa:∃D,(Instr.mapUpdate 51 (.map (some (mpb w p.1))) (.int .i64 p.2) v).run Tryz.prog w1= .ok () D∧Mp D (w.heap.size+2) (fun x=>upd F p v (false,x))∧Mp D (w.heap.size+3) (fun x=>upd F p v (true,x))∧w1.grownBy D (some (mpb w p.1)):=by
    obtain⟨b,x⟩:=p;cases b
    · obtain⟨D,h1,h2,L⟩:=Mp.store Tryz.underlying51 Tryz.underlying3 m6 x v
      refine⟨D,h1,?_,?_,L⟩
      · have e:(fun y=>upd F (false,x) v (false,y))=upd (fun x=>F (false,x)) x v:=by funext y;simp[upd]
        rw[e];exact h2
      · have e:(fun y=>upd F (false,x) v (true,y))=(fun y=>F (true,y)):=by funext y;simp[upd]
        rw[e];exact m7.keep (L.block _ m7.lt (by simp))
    · obtain⟨D,h1,h2,L⟩:=Mp.store Tryz.underlying51 Tryz.underlying3 m7 x v
      refine⟨D,h1,?_,?_,L⟩
      · have e:(fun y=>upd F (true,x) v (false,y))=(fun y=>F (false,y)):=by funext y;simp[upd]
        rw[e];exact m6.keep (L.block _ m6.lt (by simp))
      · have e:(fun y=>upd F (true,x) v (true,y))=upd (fun x=>F (true,x)) x v:=by funext y;simp[upd]
        rw[e];exact h2
  obtain⟨D,h1,h2,L,h4⟩:=aa;have hm:w.heap.size≤mpb w p.1∧(mpb w p.1=w.heap.size+2∨mpb w p.1=w.heap.size+3):=by unfold mpb;split<;>omega
  have af:X.heap.size≤w1.heap.size:=Z.size;have G:∀k,k<w1.heap.size→k≠mpb w p.1→D.heap[k]?=w1.heap[k]?:=fun k hk ab=>h4.block k hk (fun e=>ab (Option.some.inj e));have ae:=(Array.getElem?_eq_some_iff.1 b1).1;refine⟨D,h1,⟨⟨?_⟩,⟨?_⟩,⟨?_⟩,⟨?_⟩,⟨?_⟩,⟨h2⟩,⟨L⟩,⟨?_⟩⟩,⟨?_⟩,⟨?_⟩,⟨b3⟩⟩
  · exact(a1.grown Z (by omega) (fun k e=>by have:=I k e;omega)).grown h4 (by omega) (fun k e=>by cases e;exact hm.1)
  · have:=h4.size;omega
  · rw[G _ (by omega) (by omega),U _ (by omega)];exact a3
  · rw[G _ (by omega) (by omega),U _ (by omega)];exact a4
  · rw[G _ (by omega) (by omega),U _ (by omega)];exact a5
  · exact r1.keep h4 (fun g e=>by cases e;omega)
  · rw[G _ (by omega) (by omega),Y];exact b1
  · intro q e
    by_cases d:q=p
    · subst d
      simp only[upd,if_pos]at e;rcases hl with e1|⟨g,e1,hge⟩
      · exact b2 q (by rw[←e1];exact e)
      · rw[e1]at e;have:=Option.some.inj e;omega
    · simp only[upd,if_neg d]at e
      exact b2 q e
theorem OJ.form(h:OJ w s v1 v2 hs fs F c wr)(p:Bool×Int):∃xs,wr.ownsRow (w.heap.size+5) 3 1 (F p) (c p) xs:=h.1.2.2.2.2.2.2.2.out.1 p
end
def GM(w:World)(b1 b2:Nat)(l:List S40):Prop:=∃F:Bool×Int→Value,Mp w b1 (fun x=>F (false,x))∧Mp w b2 (fun x=>F (true,x))∧∀p,∃A cap,F p= .slice A (cnt l p) cap
theorem GM.below{w w':World}{b1 b2:Nat}{l:List S40}(h:GM w b1 b2 l)(D:Below w.heap.size w w'):GM w' b1 b2 l:=by
  obtain⟨F,h1,h2,G⟩:=h;exact⟨F,h1.below D,h2.below D,G⟩
set_option maxHeartbeats 8000000 in
set_option maxRecDepth 100000 in
theorem Bf (a0:ByteArray) (A1:Option Addr) (c1:Nat) (l1:List S38) (A2:Option Addr) (c2:Nat) (l2:List S40) (w:World)
    (av:Kd.C k40 w A2 l2.length l2) (an:l2.length<17592186044416):
    Calls Tryz.prog 22 #[.agg #[.string a0, .slice A1 l1.length c1, .slice A2 l2.length c2]] w fun e w'=>∃b1 b2,e= .returned (.agg #[.string a0, .slice A1 l1.length c1, .slice A2 l2.length c2, .map (some b1), .map (some b2)])∧GM w' b1 b2 l2∧Below w.heap.size w w':=by
  have az:=mk0 av;have ao:=mk0 an;clear av an;have ay:=@run_makeMap Tryz.prog;go_enter Tryz.func22,Tryz.ntmps22;go_wp2_with fail;clear ay;simp only[Nat.add_assoc,Nat.reduceAdd];have HS:=OI.new w a0 (.slice A1 l1.length c1) (.slice A2 l2.length c2);go_loopg [13] (l2.length) (fun kq aA wr=>∃i:Nat,aA= .int .i64 (i:Int)∧eD (kq+i=l2.length)∧∃F,OI w a0 (.slice A1 l1.length c1) (.slice A2 l2.length c2) F (cnt (l2.take i)) wr);case atStart=>exact⟨0,rfl,⟨rfl⟩,_,HS⟩
  case round=>
    obtain⟨i,rfl,HF,F,L⟩:=hrel;by_cases hi:i<l2.length
    · have ae:decide ((i:Int)<(l2.length:Int))=true:=decide_eq_true (by omega)
      obtain⟨_,rfl,e0,e1,e2,e3,e4⟩:=zI (Kd.iT az.out L.1.out) (i:Int) (by omega) (by omega);(have au:iR l2 (i:Int)=l2[i]:=by unfold iR;rw[Int.toNat_natCast,List.getD_eq_getElem?_getD,List.getElem?_eq_getElem hi];rfl);rw[Int.toNat_natCast,au]at e0 e1 e2 e3 e4;(obtain⟨x,hx⟩:∃n,l2[i]=n:=⟨_,rfl⟩);have ax:=mk0 ((congrArg cnt (show l2.take (i+1)=l2.take i++[x] by rw[List.take_succ_eq_append_getElem hi,hx])).trans (Iz (l2.take i) x));have ar:=mk0 (show ∀p,cnt (l2.take i) p<17592186044416 from fun p=>Nat.lt_of_le_of_lt (CG _ p) (by have:=ao.out;rw[List.length_take];omega));rw[hx]at e0 e1 e2 e3 e4;obtain⟨fr,D,kd,mx,gd⟩:=x;dsimp only at e0 e1 e2 e3 e4 ax;clear au hx;go_wp2_with fail;have HJ:=mk0 (L.flow #[.int .i64 fr, .int .i64 D, .int .i64 kd, .int .i64 mx, .string gd]);clear L e0 e1 e2 e3 e4;generalize wr.alloc (.cells #[.int .i64 fr, .int .i64 D, .int .i64 kd, .int .i64 mx, .string gd] 40)=wj at*;generalize wr.heap.size=hs at*;obtain⟨xs,ai⟩:=OJ.form HJ.out (false,D);have al:=mk0 ai;clear ai;have ah:(Instr.lookup 51 (.map (some (w.heap.size+2))) (.int .i64 D) false).run Tryz.prog wj.drew= .ok (F (false,D)) wj.drew:=OJ.look (OJ.drew HJ.out) (false,D);have Y:∀o,(Instr.lookup 51 (.map (some (w.heap.size+2))) (.int .i64 D) false).run Tryz.prog (wj.drew.alloc o)= .ok (F (false,D)) (wj.drew.alloc o):=fun o=>OJ.look (OJ.alloc (OJ.drew HJ.out) o) (false,D);have aj:∀o,(Instr.lookup 51 (.map (some (w.heap.size+2))) (.int .i64 D) false).run Tryz.prog (wj.alloc o).drew= .ok (F (false,D)) (wj.alloc o).drew:=fun o=>OJ.look (OJ.alloc (OJ.drew HJ.out) o) (false,D);obtain⟨i0,af,ak,aa,ab⟩:=info_parts info3;go_region_held3 (fun W=>W.cell? ⟨w.heap.size+4,3,none⟩=some (.map (some (w.heap.size+2)))∧W.cell? ⟨hs,1,none⟩=some (.int .i64 D)) (first|exact(OJ.drew HJ.out).s5|exact((HJ.out.alloc _).drew).s5|exact am.out|exact HJ2.out.s5) (first|(refine step_append_lies _ rfl _ _ 36 rfl (w.heap.size+5) 3 i0 (.int .i64 0) 1 8 Tryz.underlying36 af ak aa ab rfl (by decide) (F (false,D)) (cnt (l2.take i) (false,D)) xs rfl (al.out.alloc _) _ 1 1 [.int .i64 (IntKind.i64.wrap ((i:Int)+1))] rfl rfl (World.news_of_block (show(wj.alloc _).heap[wj.heap.size]?=_ from qF _ _)) (ints_oneCell .i64 [IntKind.i64.wrap ((i:Int)+1)]) (by decide) (by have:=ar.out (false,D);unfold maxLen;omega) (by have:=ar.out (false,D);omega) (by have:=HJ.out.1.2.1.out;simp;omega) _ rfl ?_;intro g cap w1 I G Z ae;obtain⟨U,w2,X,ag⟩:=OJ.push ((HJ.out.alloc _).drew) (false,D) G I (by rcases Z with e|e;exact Or.inl e.symm;exact Or.inr ⟨g,rfl,by rw[e];simp⟩);have am:=mk0 (And.intro U.1.1 (U.2 1));have HJ2:=mk0 ag;have aq:(Instr.mapUpdate 51 (.map (some (w.heap.size+2))) (.int .i64 D) (.slice (some ⟨g,0,none⟩) (cnt (l2.take i) (false,D)+1) cap)).run Tryz.prog w1= .ok () w2:=X;clear U ag X))
      all_goals
        have ap:=mk0 (show upd (cnt (l2.take i)) (false,D) (cnt (l2.take i) (false,D)+1) (true,fr)<17592186044416 by have:=ar.out (true,fr);simpa[upd]using this)
        clear ah Y aj am al aq af ak aa ab
        generalize upd (cnt (l2.take i)) (false,D) (cnt (l2.take i) (false,D)+1)=cc at*
        generalize upd F (false,D) _=F2 at*
        clear I G Z ae HJ
        go_wp2_with fail
        obtain⟨xs,ai⟩:=OJ.form HJ2.out (true,fr)
        have al:=mk0 ai
        clear ai
        have ah:(Instr.lookup 51 (.map (some (w.heap.size+3))) (.int .i64 fr) false).run Tryz.prog w2.drew= .ok (F2 (true,fr)) w2.drew:=OJ.look (OJ.drew HJ2.out) (true,fr)
        have Y:∀o,(Instr.lookup 51 (.map (some (w.heap.size+3))) (.int .i64 fr) false).run Tryz.prog (w2.drew.alloc o)= .ok (F2 (true,fr)) (w2.drew.alloc o):=fun o=>OJ.look (OJ.alloc (OJ.drew HJ2.out) o) (true,fr)
        have aj:∀o,(Instr.lookup 51 (.map (some (w.heap.size+3))) (.int .i64 fr) false).run Tryz.prog (w2.alloc o).drew= .ok (F2 (true,fr)) (w2.alloc o).drew:=fun o=>OJ.look (OJ.alloc (OJ.drew HJ2.out) o) (true,fr)
        obtain⟨i0,af,ak,aa,ab⟩:=info_parts info3
        go_region_held3 (fun W=>W.cell? ⟨w.heap.size+4,4,none⟩=some (.map (some (w.heap.size+3)))∧W.cell? ⟨hs,0,none⟩=some (.int .i64 fr)) (first|exact(OJ.drew HJ2.out).s6|exact((HJ2.out.alloc _).drew).s6|exact am.out|exact HJ4.out.s6) (first|(refine step_append_lies _ rfl _ _ 36 rfl (w.heap.size+5) 3 i0 (.int .i64 0) 1 8 Tryz.underlying36 af ak aa ab rfl (by decide) (F2 (true,fr)) (cc (true,fr)) xs rfl (al.out.alloc _) _ 1 1 [.int .i64 (IntKind.i64.wrap ((i:Int)+1))] rfl rfl (World.news_of_block (show(w2.alloc _).heap[w2.heap.size]?=_ from qF _ _)) (ints_oneCell .i64 [IntKind.i64.wrap ((i:Int)+1)]) (by decide) (by have:=ap.out;unfold maxLen;omega) (by have:=ap.out;omega) (by have:=HJ2.out.1.2.1.out;simp;omega) _ rfl ?_;intro g2 aw w3 I G Z ae;obtain⟨U,w4,X,ag⟩:=OJ.push ((HJ2.out.alloc _).drew) (true,fr) G I (by rcases Z with e|e;exact Or.inl e.symm;exact Or.inr ⟨g2,rfl,by rw[e];simp⟩);have am:=mk0 (And.intro U.1.2 (U.2 0));have HJ4:=mk0 ag;have aq:(Instr.mapUpdate 51 (.map (some (w.heap.size+3))) (.int .i64 fr) (.slice (some ⟨g2,0,none⟩) (cc (true,fr)+1) aw)).run Tryz.prog w3= .ok () w4:=X;clear U ag X))
        all_goals
          clear ah Y aj am al aq af ak aa ab
          have L:=HJ4.out.1
          rw[←ax.out]at L
          generalize upd F2 (true,fr) _=F4 at*
          clear I G Z ae HJ2 HJ4
          go_wp2
          go_roundg (gk-1)
          case measure=>have:=HF.out;omega
          case rel=>exact⟨i+1,by rw[rT i (by have:=ao.out;omega)],⟨by have:=HF.out;omega⟩,F4,L⟩
    · have ae:decide ((i:Int)<(l2.length:Int))=false:=decide_eq_false (by omega)
      have HR:=mk0 (show l2.take i=l2 from List.take_of_length_le (by omega));rw[HR.out]at L;obtain⟨_,_,g2,_,_⟩:=kT L.2.2.2.2.1.out;obtain⟨_,_,_,_,_⟩:=kT L.2.2.2.1.out;have f0:=iP L.2.2.2.1.out 0;have f1:=iP L.2.2.2.1.out 1;have f2:=iP L.2.2.2.1.out 2;have f3:=iP L.2.2.2.1.out 3;have f4:=iP L.2.2.2.1.out 4;go_wp2;refine bodyPost_ret (results_cell_row rfl _ _ (w.heap.size+1) 53 _ (0,0) _ rfl (JU L.2.2.2.1.out _ _ _ _ _) Tryz.underlying53 rfl (by kernel_rfl)) rfl ?_;refine⟨_,_,rfl,?_,JJ L.1.out (Nat.le_succ _) _ _ _ _ _⟩;obtain⟨m1,m2,m3⟩:=L.2.2.2.2.2;refine⟨F,m1.out.keep ?_,m2.out.keep ?_,fun p=>m3.out.form p⟩;all_goals(repeat rw[Below.heap_setCell _ _ _ _ (by show _≠w.heap.size+1;omega)])
end Go.Proofs.Gr
