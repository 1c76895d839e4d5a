/- What cutting a guard's text into signs comes to, in plain. -/
import Derived.Shelf.Strings.SlTrimAscii
import Derived.Deep.WholeRow
import Derived.Laws.Tables
import Derived.Great.BuildSlice
import Derived.Lib.SmallJoins
import Derived.LoopTactic
import Derived.Lib.Bytes2
import Derived.Test.YtcaegaljhogbjaaGreatDoorGx2
import Derived.Test.YtcaegaljhogbjaaGreatDoorQx0
set_option linter.unusedSimpArgs false
set_option linter.unusedVariables false
set_option maxHeartbeats 8000000
set_option maxRecDepth 100000
namespace Go.Proofs.Lx
open G Span
def TX:List (List UInt8):=[[],[],[],[43],[45],[42],[60],[60,61],[62],[62,61],[61,61],[33,61],[38],[124],[33],[40],[41],[91],[93]]
def uT(l:List UInt8):List (List UInt8)→Nat→Nat×Nat→Nat×Nat
  |[],_,st=>st
  |t::ts,k,st=>uT l ts (k+1) (if st.2<t.length∧Lib.hasPrefix l t=true then(k,t.length)else st)
def su(l:List UInt8):Nat×Nat:=uT l TX 0 (0,0)
def trimB(l:List UInt8):List UInt8:=l.dropWhile (fun c=>c==32)
def isA(c:UInt8):Bool:=97≤c.toNat&&c.toNat≤122
def xw(go:List UInt8→List kD→Option (List kD×Int))(l:List UInt8)(xs:List kD):Option (List kD×Int):=
  if l.getD 0 0=48∧1<nD l then some ([],2)
  else if 10<nD l∨2147483647<val (l.take (nD l))then some ([],3)
  else go (l.drop (nD l)) (xs++[⟨1,(val (l.take (nD l)):Nat)⟩])
def wC(go:List UInt8→List kD→Option (List kD×Int))(l:List UInt8)(xs:List kD):Option (List kD×Int):=
  if(su l).2=0 then some ([],2)else go (l.drop (su l).2) (xs++[⟨((su l).1:Nat),0⟩])
def wE:Nat→List UInt8→List kD→Option (List kD×Int)
  |0,_,_=>none
  |k+1,l,xs=>
    match trimB l with
    |[]=>some (xs,0)
    |c::r=>
      if isD c=true then xw (wE k) (c::r) xs
      else if isA c=true then wE k r (xs++[⟨2,((c.toNat-97:Nat):Int)⟩])
      else wC (wE k) (c::r) xs
open RowKit Lib Go.Sort PW PL PM Goto
def TXV:Array Value:=#[.string ⟨#[]⟩, .string ⟨#[]⟩, .string ⟨#[]⟩, .string ⟨#[43]⟩, .string ⟨#[45]⟩, .string ⟨#[42]⟩, .string ⟨#[60]⟩, .string ⟨#[60,61]⟩, .string ⟨#[62]⟩, .string ⟨#[62,61]⟩, .string ⟨#[61,61]⟩, .string ⟨#[33,61]⟩, .string ⟨#[38]⟩, .string ⟨#[124]⟩, .string ⟨#[33]⟩, .string ⟨#[40]⟩, .string ⟨#[41]⟩, .string ⟨#[91]⟩, .string ⟨#[93]⟩]
theorem D8(n a b:Int)(w:World):Calls Tryz.prog 81 #[.int .i64 n, .int .i64 a, .int .i64 b] w fun e w'=>e= .returned (.bool (decide (a≤n)&&decide (n≤b)))∧w'=w:=by
  cases h1:decide (a≤n)with
  |false=>
    go_enter Tryz.func81,Tryz.ntmps81;go_wp2;go_ret;exact⟨rfl,rfl⟩
  |true=>
    go_enter Tryz.func81,Tryz.ntmps81;go_wp2;go_ret;exact⟨rfl,rfl⟩
theorem CU(w:World):Calls Tryz.prog 105 #[] w fun e w'=>e= .returned (.agg TXV)∧Below w.heap.size w w':=by
  have G:=run_loadVar_new (P:=Tryz.prog) w 141 TXV 19 9 Tryz.underlying141 (by kernel_rfl);have D:=mk0 G;clear G;go_enter Tryz.func105,Tryz.ntmps105;go_wp2_with(first|(refine wpList_buildTo rfl 141 _ rfl (some 1) rfl TXV (by kernel_rfl) ?_)|(refine wpList_store_rowTo rfl 141 (.tmp 0) (.tmp 1) rfl rfl w.heap.size _ rfl rfl 141 _ (qF w _) ?hi ?ho ?h1 ?_;(case hi=>kernel_rfl);(case ho=>kernel_rfl);(case h1=>kernel_rfl);rw[World.setRow_alloc_new]));refine bodyPost_ret (v:= .agg TXV) ?_ rfl ⟨rfl,(Below.refl _ _).alloc (Nat.le_refl _) _⟩;have e:(results Tryz.f105 #[.pointer (some ⟨w.heap.size,0,none⟩), .agg TXV]).run Tryz.prog (w.alloc (.cells TXV 141))= .ok (.agg TXV) (w.alloc (.cells TXV 141)):=by
    have hl:=D.out;generalize TXV=I at hl⊢;simp[results,Tryz.results105];exact hl
  exact e
theorem Mv:∀k,k<19→TXV[k]?=some (.string (S (TX.getD k []))):=by
  intro k hk;have:k=0∨k=1∨k=2∨k=3∨k=4∨k=5∨k=6∨k=7∨k=8∨k=9∨k=10∨k=11∨k=12∨k=13∨k=14∨k=15∨k=16∨k=17∨k=18:=by omega
  rcases this with e|e|e|e|e|e|e|e|e|e|e|e|e|e|e|e|e|e|e<;>(subst e;rfl)
theorem Ec:∀k,(TX.getD k []).length≤2:=by
  intro k;rcases Nat.lt_or_ge k 19 with hk|hk
  · have:k=0∨k=1∨k=2∨k=3∨k=4∨k=5∨k=6∨k=7∨k=8∨k=9∨k=10∨k=11∨k=12∨k=13∨k=14∨k=15∨k=16∨k=17∨k=18:=by omega
    rcases this with e|e|e|e|e|e|e|e|e|e|e|e|e|e|e|e|e|e|e<;>(subst e;decide)
  · rw[List.getD_eq_getElem?_getD,List.getElem?_eq_none (by exact hk)];decide
theorem Cc:∀k,k<19→TX.drop k=TX.getD k []::TX.drop (k+1):=by
  intro k hk;rw[List.drop_eq_getElem_cons (by exact hk)];congr 1;rw[List.getD_eq_getElem?_getD,List.getElem?_eq_getElem (by exact hk)];rfl
theorem Jh(D:Array Value)(i:Nat)(hi:i<19)(s:ByteArray)(h:D[i]?=some (.string s))(w:World):(Instr.index 141 (.agg D) (.int .i64 (i:Int))).run Tryz.prog w= .ok (.string s) w:=by
  have G:0≤(i:Int):=by omega
  have I:(i:Int)<19:=by omega
  simp[Instr.index,run_underlying Tryz.underlying141,asIntOf,G,I,hi,part,go_sem,h]
theorem BF(l:List UInt8)(w:World):Calls Tryz.prog 82 #[.string (S l)] w fun e w'=>e= .returned (.tuple #[.int .i64 ((su l).1:Nat), .int .i64 ((su l).2:Nat)])∧Below w.heap.size w w':=by
  obtain⟨tv,G⟩:∃tv,TXV=tv:=⟨_,rfl⟩
  have aa:=mk0 G;have hT:=CU w;rw[G]at hT;have HT:=mk0 hT;clear hT G;go_enter Tryz.func82,Tryz.ntmps82;go_wp2_with(go_at_call 105;(with_reducible refine HT.out.mono ?_);rintro e w2⟨rfl,hb⟩;have HB:=mk0 hb;clear hb);go_loopg [2,3,4,5,7] (19) (fun kq v2 v3 v4 v5 v7 wr=>∃(i a b:Nat),v7= .int .i64 (i:Int)∧v2= .int .i64 (a:Int)∧v3= .int .i64 (b:Int)∧eD (kq+i=19)∧eD (uT l (TX.drop i) i (a,b)=su l)∧eD (b≤2)∧wr=w2);case atStart=>exact⟨0,0,0,rfl,rfl,rfl,⟨rfl⟩,⟨rfl⟩,⟨by omega⟩,rfl⟩
  case round=>
    obtain⟨i,a,b,rfl,rfl,rfl,L,HL,HS,rfl⟩:=hrel;by_cases hi:i<19
    · have ae:decide ((i:Int)<19)=true:=decide_eq_true (by omega)
      have G:=Mv i hi;rw[aa.out]at G;have Z:=Ec i;have X:=Cc i hi;generalize TX.getD i []=t at G Z X;have hp:=fun w=>Tryz.strings_HasPrefix (S l) (S t) w;rw[sP,sP]at hp;have HP:=mk0 hp;have HD:=mk0 X;have HX:=mk0 (kM t);clear hp X;have ag:=fun w=>Jh tv i hi (S t) G w;have ab:=mk0 Z;have Y:=L.out;have D:=HL.out;rw[HD.out,uT]at D;clear G Z;by_cases hb:b<(S t).size
      · have af:=mk0 hb
        cases hq:Lib.hasPrefix l t with
        |true=>
          rw[hq]at HP;rw[if_pos ⟨by rw[←HX.out];exact hb,hq⟩,←HX.out]at D;have I:=mk0 D;clear D Y hq;go_wp2_with(go_at_call 74;(with_reducible refine(HP.out _).mono ?_);rintro e w3⟨rfl,rfl⟩);go_roundg (gk-1);(case measure=>have:=L.out;omega);case rel=>exact⟨i+1,i,(S t).size,by congr 1,rfl,rfl,⟨by have:=L.out;omega⟩,I,⟨by rw[HX.out];exact ab.out⟩,rfl⟩
        |false=>
          rw[hq]at HP;rw[if_neg (fun h=>by rw[hq]at h;cases h.2)]at D;have I:=mk0 D;clear D Y hq;go_wp2_with(go_at_call 74;(with_reducible refine(HP.out _).mono ?_);rintro e w3⟨rfl,rfl⟩);go_roundg (gk-1);(case measure=>have:=L.out;omega);case rel=>exact⟨i+1,a,b,by congr 1,rfl,rfl,⟨by have:=L.out;omega⟩,I,HS,rfl⟩
      · rw[if_neg (fun h=>hb (by rw[HX.out];exact h.1))]at D
        have I:=mk0 D;clear D Y;go_wp2;go_roundg (gk-1);(case measure=>have:=L.out;omega);case rel=>exact⟨i+1,a,b,by congr 1,rfl,rfl,⟨by have:=L.out;omega⟩,I,HS,rfl⟩
    · have ae:decide ((i:Int)<19)=false:=decide_eq_false (by omega)
      (have U:i=19:=by have:=L.out;omega);have D:=HL.out;rw[U]at D;have I:(a,b)=su l:=D;have HA:=mk0 I;clear D I U aa HT;go_wp2;go_ret2;rw[←HA.out];exact⟨rfl,HB.out⟩
open Ext
theorem zk {P:Program} {a:Act} {w:World} {Q:Exit→Act→World→Prop} {c I r1:Code} (J:Nat→Act→World→Prop) (μ:Nat→Act→World→Nat)
    (L:findLabel c 0=some (.seq .skip I)) (h1:findLabel c 1=some (.seq .skip r1)) (hl:∀l a w,J l a w→l<2)
    (first:(∀a w,J 0 a w→I.wp P (jumps J Q) a w)→c.wp P (jumps J Q) a w)
    (U:∀a w,J 0 a w→I.wp P (jumps (fun l' a' w'=>J l' a' w'∧μ l' a' w'<μ 0 a w) Q) a w)
    (p1:∀a w,J 1 a w→r1.wp P (jumps (fun l' a' w'=>J l' a' w'∧μ l' a' w'<μ 1 a w) Q) a w):(Code.scope c).wp P Q a w:=by
  have G:∀l,l<2→l=0∨l=1:=fun l h=>by omega
  refine xK J μ ?_ (first ?_) ?_
  · intro l a w D
    rcases G l (hl l a w D)with rfl|rfl
    · exact⟨_,L⟩
    · exact⟨_,h1⟩
  · intro a w D b k cs
    obtain⟨e,a',w',Y,Z⟩:=U a w D b k cs;refine⟨e,a',w',?_,Z⟩;cases e with
    |goto l=>exact Y.1
    |_=>exact Y
  · intro l rest X a w D
    rcases G l (hl l a w D)with rfl|rfl
    · obtain rfl:=Option.some.inj (X.symm.trans L);exact wp_seq (wp_skip (U a w D))
    · obtain rfl:=Option.some.inj (X.symm.trans h1);exact wp_seq (wp_skip (p1 a w D))
def Fr(s bi:Value)(a:Act):Prop:=∃u1 u2 u3 u5 u6 u7 u8 u9 X ay a1 bk ap a6 a7 aL aP aX bj ae a4 ak a8 ag aJ aC aH bm am al a9 av ab D a5 aM aW bd L aa aQ aR ax aV aq aO ai ba aF Z aG bb a3 aA aD aB I au af ao az aU aI aE aZ aN Y aK a0 aY a2 be U aw bh G aj bc aT an bf bl ah ar aS:Value,a={tmps:=#[s,u1,u2,u3,bi,u5,u6,u7,u8,u9,X,ay,a1,bk,ap,a6,a7,aL,aP,aX,bj,ae,a4,ak,a8,ag,aJ,aC,aH,bm,am,al,a9,av,ab,D,a5,aM,aW,bd,L,aa,aQ,aR,ax,aV,aq,aO,ai,ba,aF,Z,aG,bb,a3,aA,aD,aB,I,au,af,ao,az,aU,aI,aE,aZ,aN,Y,aK,a0,aY,a2,be,U,aw,bh,G,aj,bc,aT,an,bf,bl,ah,ar,aS],defers:=[]}
def J(D:List kD×Int)(w:World)(G:Nat)(a:Act)(w':World):Prop:=
  eD (Below w.heap.size w w')∧((G=0∧∃(k:Nat) (l:List UInt8) (xs:List kD) (v:Value),eD (wE k l xs=some D)∧xs.length+l.length≤60∧eD (tq.R 118 w' w.heap.size (fun _=>True) v xs)∧Fr (.string (S l)) v a)∨(G=1∧∃(k:Nat) (c:UInt8) (r:List UInt8) (xs:List kD) (v:Value),eD (xw (wE k) (c::r) xs=some D)∧isD c=true∧xs.length+(c::r).length≤60∧eD (tq.R 118 w' w.heap.size (fun _=>True) v xs)∧Fr (.string (S (c::r))) v a))
def μ(D:Nat)(a:Act):Nat:=match a.tmps[0]? with
  |some (Value.string s)=>2*s.size+(1-D)
  |_=>0
theorem J9(l:List UInt8):(trimB l).length≤l.length:=(List.dropWhile_sublist _).length_le
theorem byte_at(c:UInt8)(r:List UInt8)(w:World):(Instr.index 9 (.string (S (c::r))) (.int .i64 0)).run Tryz.prog w= .ok (.int .u8 (c.toNat:Int)) w:=by
  simp[Instr.index,run_underlying Tryz.underlying9,asIntOf,go_sem,S];simp[ByteArray.getElem_eq_getElem_data]
theorem Jm(l:List UInt8):l.dropWhile (fun c=>([48,49,50,51,52,53,54,55,56,57]:List UInt8).contains c)=l.drop (nD l):=by
  have D:∀n:Fin 256,([48,49,50,51,52,53,54,55,56,57]:List UInt8).contains (UInt8.ofNat n.val)=isD (UInt8.ofNat n.val):=by decide+kernel
  have hd:∀c:UInt8,([48,49,50,51,52,53,54,55,56,57]:List UInt8).contains c=isD c:=fun c=>by have h:=D ⟨c.toNat,c.toNat_lt⟩;rwa[show UInt8.ofNat c.toNat=c from UInt8.ofNat_toNat]at h
  induction l with
  |nil=>rfl
  |cons c l ih=>
    rw[List.dropWhile_cons,hd,nD];cases h:isD c with
    |true=>simp only[if_true,List.drop_succ_cons];exact ih
    |false=>simp
theorem DZ(l:List UInt8)(w:World):Calls Tryz.prog 80 #[.string (S l), .string ⟨#[48,49,50,51,52,53,54,55,56,57]⟩] w fun e w'=>e= .returned (.string (S (l.drop (nD l))))∧Below w.heap.size w w':=by
  have h:=Any.strings_TrimLeft_laid Tryz.FJ (by kernel_rfl) (S l) ⟨#[48,49,50,51,52,53,54,55,56,57]⟩ w (by decide) (ascii_of_all (by decide));rw[sP]at h;refine h.mono ?_;rintro e w'⟨rfl,D⟩;refine⟨?_,D⟩;show Ending.returned (.string (S (l.dropWhile (fun c=>([48,49,50,51,52,53,54,55,56,57]:List UInt8).contains c))))=_;rw[Jm]
theorem EL(l:List UInt8)(w:World):Calls Tryz.prog 80 #[.string (S l), .string ⟨#[32]⟩] w fun e w'=>e= .returned (.string (S (trimB l)))∧w'=w:=by
  have h:=Tryz.strings_TrimLeft_one (S l) 32 (by decide) w;rw[sP]at h;exact h
theorem GX(c:UInt8)(w:World):Calls Tryz.prog 81 #[.int .i64 (c.toNat:Int), .int .i64 48, .int .i64 57] w fun e w'=>e= .returned (.bool (isD c))∧w'=w:=by
  have e:isD c=(decide ((48:Int)≤(c.toNat:Int))&&decide ((c.toNat:Int)≤57)):=by
    unfold isD;congr 1<;>(apply decide_eq_decide.mpr;omega)
  rw[e];exact D8 _ _ _ w
theorem GU(c:UInt8)(w:World):Calls Tryz.prog 81 #[.int .i64 (c.toNat:Int), .int .i64 97, .int .i64 122] w fun e w'=>e= .returned (.bool (isA c))∧w'=w:=by
  have e:isA c=(decide ((97:Int)≤(c.toNat:Int))&&decide ((c.toNat:Int)≤122)):=by
    unfold isA;congr 1<;>(apply decide_eq_decide.mpr;omega)
  rw[e];exact D8 _ _ _ w
theorem Kr(l:List UInt8):∀(ts:List (List UInt8)) (k:Nat) (st:Nat×Nat),st.2≤l.length→(uT l ts k st).2≤l.length:=by
  intro ts
  induction ts with
  |nil=>intro k st h;exact h
  |cons t ts ih=>
    intro k st h;rw[uT];apply ih
    split
    · rename_i D
      exact Lib.hasPrefix_le D.2
    · exact h
theorem AA(l:List UInt8):(su l).2≤l.length:=Kr l TX 0 (0,0) (Nat.zero_le _)
theorem vE(l:List UInt8):∀m,m≤nD l→∀c∈l.take m,isD c=true:=by
  induction l with
  |nil=>intro m _ c D;simp at D
  |cons d l ih=>
    intro m G c D;cases m with
    |zero=>simp at D
    |succ m=>
      rw[nD]at G
      split at G
      · rename_i hd
        rw[List.take_succ_cons]at D;rcases List.mem_cons.mp D with rfl|D
        · exact hd
        · exact ih m (by omega) c D
      · omega
theorem FX(l:List UInt8)(m:Nat)(D:m≤nD l)(G:m≤10)(h1:1≤m):strconv_Atoi.f (S (l.take m))=some (((val (l.take m):Nat):Int),none):=by
  have hl:=uL l;unfold strconv_Atoi.f;rw[sP,if_pos ⟨by rw[kM,List.length_take];omega,by intro e;have:=congrArg List.length e;rw[List.length_take,List.length_nil]at this;omega,List.all_eq_true.mpr (vE l m D)⟩]
theorem ES(l:List UInt8)(m:Nat)(D:m≤nD l)(G:m≤10):val (l.take m)<1000000000000:=by
  have h:=Fw (l.take m) 0 (vE l m D);have h2:(l.take m).length≤10:=by rw[List.length_take];omega
  have L:(10:Nat)^(l.take m).length≤10^10:=Nat.pow_le_pow_right (by omega) h2;have I:(10:Nat)^10=10000000000:=by decide
  unfold val;omega
def vO.f(D:ByteArray):Option (List kD×Int):=if D.size>60 then some ([],15)else wE (D.size+1) D.data.toList []
theorem vO.calls(a0:ByteArray)(r1:List kD)(r2:Int)(w:World)(h:vO.f a0=some (r1,r2)):
    Calls Tryz.prog 59 #[.string a0] w fun e w'=>∃a9:Value,e= .returned (.tuple #[a9, .int .i64 r2])∧tq.R 118 w' w.heap.size (fun _=>True) a9 r1∧Below w.heap.size w w':=by
  unfold vO.f at h;by_cases ai:a0.size>60
  · rw[if_pos ai]at h
    cases h;have hd:decide ((60:Int)<(a0.size:Int))=true:=decide_eq_true (by omega);go_enter Tryz.func59,Tryz.ntmps59;go_wp2;refine zk (fun _ _ _=>False) (fun _ _ _=>0) rfl rfl (fun _ _ _ h=>h.elim) ?first (fun _ _ h=>h.elim) (fun _ _ h=>h.elim)
    case first=>
      intro _;go_wp2;simp only[jumps];go_ret2;exact⟨_,rfl,Kd.sO _ _ _ _ _,Below.refl _ _⟩
  · rw[if_neg ai]at h
    (obtain⟨l0,rfl⟩:∃l,a0=S l:=⟨_,(GA a0).symm⟩);rw[sP,kM]at h;rw[kM]at ai;have hd:decide ((60:Int)<((S l0).size:Int))=false:=decide_eq_false (by rw[kM];omega);have H0:=mk0 h;have bK:=mk0 ai;clear h ai;go_enter Tryz.func59,Tryz.ntmps59;go_wp2;refine zk (J (r1,r2) w) (fun aX a _=>μ aX a) rfl rfl ?hl ?first ?p0 ?p1;case hl=>rintro aX a w'⟨_,⟨rfl,_⟩|⟨rfl,_⟩⟩<;>omega
    case first=>
      intro bQ;go_wp2;go_step3
      rename_i K1 a1
      refine a1 _ _ ?_;refine bQ _ _ ⟨⟨Below.refl _ _⟩,Or.inl ⟨rfl,_,l0,[], .slice none 0 0,H0,?_,⟨Kd.sO _ _ _ _ _⟩,?_⟩⟩
      · have:=bK.out;simp only[List.length_nil];omega
      · exact⟨_,_,_,_,_,_,_,_,_,_,_,_,_,_,_,_,_,_,_,_,_,_,_,_,_,_,_,_,_,_,_,_,_,_,_,_,_,_,_,_,_,_,_,_,_,_,_,_,_,_,_,_,_,_,_,_,_,_,_,_,_,_,_,_,_,_,_,_,_,_,_,_,_,_,_,_,_,_,_,_,_,_,_,_,_,rfl⟩
    case p0=>
      rintro a w'⟨HB,⟨_,k,l,xs,v,HL,ae,HR,aV⟩|⟨bl,_⟩⟩;(case inr=>omega);obtain⟨u1,u2,u3,u5,u6,u7,u8,u9,bU,bp,bD,bO,b8,cD,cE,bx,co,bB,bL,bh,bE,bj,bF,bX,ci,cf,bv,bP,b4,bk,bG,ca,bW,bR,cC,ck,cv,bH,bc,be,cp,cq,cb,ct,bm,cn,bZ,cF,ch,bV,bu,cG,cA,br,cg,ce,bS,bn,bi,b7,bq,bA,bw,bs,cw,cm,bd,cj,cx,bC,cz,bI,bT,bo,cI,bb,b0,cH,cr,b6,bJ,cJ,bY,b9,bz,rfl⟩:=aV;obtain⟨k',rfl⟩:∃k',k=k'+1:=by
        cases k with
        |zero=>have:=HL.out;cases this
        |succ k=>exact⟨k,rfl⟩
      have G:=HL.out;have aq:=fun w=>EL l w;have aE:=J9 l;unfold wE at G;cases ht:trimB l with
      |nil=>
        rw[ht]at G aq;(have e:xs=r1∧(0:Int)=r2:=by cases G;exact⟨rfl,rfl⟩);obtain⟨rfl,rfl⟩:=e;(have ap:(S ([]:List UInt8)).toList.isEmpty=true:=by rw[Lib.toList_data,sP];rfl);have HT:=mk0 aq;clear G HL aq ht H0;go_wp2_with(go_at_call 80;(with_reducible refine(HT.out _).mono ?_);rintro e w2⟨rfl,rfl⟩);simp only[jumps];go_ret2;exact⟨_,rfl,HR.out,HB.out⟩
      |cons c r=>
        rw[ht]at G aq aE;dsimp only at G;have HT:=mk0 aq;(have ap:(S (c::r)).toList.isEmpty=false:=by rw[Lib.toList_data,sP];rfl);have ab:=byte_at c r;(have cQ:IntKind.i64.wrap (c.toNat:Int)=(c.toNat:Int):=by have:=c.toNat_lt;rw[IntKind.wrap_i64];omega);have ar:=mk0 (fun w=>GX c w);have aj:=mk0 (Nat.le_trans (Nat.add_le_add_left aE xs.length) ae);have aR:=mk0 aE;clear aq ht H0 ae aE HL;cases aa:isD c with
        |true=>
          rw[if_pos aa]at G;rw[aa]at ar;have HN:=mk0 G;have cB:=mk0 aa;clear G aa;(obtain⟨sv,L⟩:∃sv,S (c::r)=sv:=⟨_,rfl⟩);have an:=mk0 L;rw[L]at HT ap ab;clear L;go_wp2_with(first|(go_at_call 80;(with_reducible refine(HT.out _).mono ?_);rintro e w2⟨rfl,rfl⟩)|(go_at_call 81;(with_reducible refine(ar.out _).mono ?_);rintro e w2⟨rfl,rfl⟩));go_step3;show J (r1,r2) w 1 _ _∧_;refine⟨⟨HB,Or.inr ⟨rfl,k',c,r,xs,v,HN,cB.out,aj.out,HR,?_⟩⟩,?_⟩
          · rw[an.out];exact⟨_,_,_,_,_,_,_,_,_,_,_,_,_,_,_,_,_,_,_,_,_,_,_,_,_,_,_,_,_,_,_,_,_,_,_,_,_,_,_,_,_,_,_,_,_,_,_,_,_,_,_,_,_,_,_,_,_,_,_,_,_,_,_,_,_,_,_,_,_,_,_,_,_,_,_,_,_,_,_,_,_,_,_,_,_,rfl⟩
          · show 2*sv.size+(1-1)<2*(S l).size+(1-0)
            rw[←an.out,kM,kM];have:=aR.out;omega
        |false=>
          rw[if_neg (by rw[aa];exact Bool.false_ne_true)]at G;rw[aa]at ar;have ah:=mk0 (fun w=>GU c w);cases ha1:isA c with
          |true=>
            rw[if_pos ha1]at G;rw[ha1]at ah;have HN:=mk0 G;(have a7:97≤c.toNat∧c.toNat≤122:=by unfold isA at ha1;rw[Bool.and_eq_true,decide_eq_true_eq,decide_eq_true_eq]at ha1;exact ha1);(have aW:((c.toNat:Int)-97)%256=((c.toNat-97:Nat):Int):=by omega);(have aK:IntKind.u8.wrap ((c.toNat:Int)-97)=((c.toNat-97:Nat):Int):=by rw[IntKind.wrap_u8];omega);(have bf:IntKind.i64.wrap ((c.toNat-97:Nat):Int)=((c.toNat-97:Nat):Int):=by rw[IntKind.wrap_i64];omega);(obtain⟨nm,aN⟩:∃nm:Int,((c.toNat-97:Nat):Int)=nm:=⟨_,rfl⟩);rw[aN]at aW aK bf;rw[aN]at HN;have ao:(S (c::r)).extract 1 (S (c::r)).size=S r:=zB (c::r) 1;(have au:(1:Int)≤((S (c::r)).size:Int):=by rw[kM,List.length_cons];omega);(have ae:xs.length≤60:=by have:=aj.out;omega);clear G aa ha1 a7 aN;(obtain⟨sv,L⟩:∃sv,S (c::r)=sv:=⟨_,rfl⟩);have an:=mk0 L;rw[L]at HT ap ab ao au;clear L;go_wp2_with(first|(go_at_call 80;(with_reducible refine(HT.out _).mono ?_);rintro e w2⟨rfl,rfl⟩)|(go_at_call 81;first|((with_reducible refine(ar.out _).mono ?_);rintro e w2⟨rfl,rfl⟩)|((with_reducible refine(ah.out _).mono ?_);rintro e w2⟨rfl,rfl⟩))|((with_reducible refine kW (b:= .append) (xs:=#[.tmp 27, .tmp 33]) rfl ?_);(try(refine qg (by rfl) ?_;dsimp only));at_builtin;refine Kd.rF tq (w0:=w) w.heap.size rfl (.tmp 27) (.tmp 33) 71 118 (.agg #[(.int .i64 0),(.int .i64 0)]) 16 rfl Tryz.underlying71 uG rfl (by decide) (by omega) v xs (⟨2,nm⟩:kD) [.int .i64 2, .int .i64 nm] (fun _=>True) (fun _=>False) rfl rfl ?aP (fun _ hk=>hk.elim) ?aF ?aO ?aB ?aS ?aL ?_;(case aP=>exact tF _ _ _ (⟨2,nm⟩:kD));(case aB=>exact HB.out);(case aF=>exact(fun _ _=>trivial));(case aO=>exact HR.out);(case aS=>exact kN HB.out);(case aL=>omega);intro v1 w3 ho hb hg Z;obtain⟨A3,c3,rfl⟩:=Kd.qw ho;have U:=mk0 hb;have X:=mk0 ho;rw[List.length_append,List.length_singleton]at X;clear hb ho hg Z));go_step3;show J (r1,r2) w 0 _ _∧_;have aJ:=aj.out;have hm:=aR.out;rw[List.length_cons]at aJ hm;refine⟨⟨U,Or.inl ⟨rfl,k',r,_,_,HN,?_,X,?_⟩⟩,?_⟩
            · rw[List.length_append,List.length_singleton];omega
            · exact⟨_,_,_,_,_,_,_,_,_,_,_,_,_,_,_,_,_,_,_,_,_,_,_,_,_,_,_,_,_,_,_,_,_,_,_,_,_,_,_,_,_,_,_,_,_,_,_,_,_,_,_,_,_,_,_,_,_,_,_,_,_,_,_,_,_,_,_,_,_,_,_,_,_,_,_,_,_,_,_,_,_,_,_,_,_,rfl⟩
            · show 2*(S r).size+(1-0)<2*(S l).size+(1-0)
              rw[kM,kM];omega
          |false=>
            rw[if_neg (by rw[ha1];exact Bool.false_ne_true)]at G;rw[ha1]at ah;have aA:=mk0 (fun w=>BF (c::r) w);have az:=mk0 (AA (c::r));unfold wC at G;(obtain⟨lk,aU⟩:∃lk,(su (c::r)).1=lk:=⟨_,rfl⟩);(obtain⟨ln,aC⟩:∃ln,(su (c::r)).2=ln:=⟨_,rfl⟩);rw[aU,aC]at aA;rw[aU,aC]at G;rw[aC]at az;(have ae:xs.length≤60:=by have:=aj.out;omega);have ao:(S (c::r)).extract ln (S (c::r)).size=S ((c::r).drop ln):=zB (c::r) ln;(have au:(ln:Int)≤((S (c::r)).size:Int):=by rw[kM];have:=az.out;omega);(have a5:ln≤(S (c::r)).size:=by rw[kM];exact az.out);clear aa ha1 aU aC;(obtain⟨sv,L⟩:∃sv,S (c::r)=sv:=⟨_,rfl⟩);have an:=mk0 L;rw[L]at HT ap ab ao au a5 aA;clear L;by_cases hz:ln=0
            · rw[if_pos hz]at G
              (have e:([]:List kD)=r1∧(2:Int)=r2:=by cases G;exact⟨rfl,rfl⟩);obtain⟨rfl,rfl⟩:=e;(have cy:((ln:Int)==0)=true:=by subst hz;rfl);clear G ao;go_wp2_with(first|(go_at_call 80;(with_reducible refine(HT.out _).mono ?_);rintro e w2⟨rfl,rfl⟩)|(go_at_call 81;first|((with_reducible refine(ar.out _).mono ?_);rintro e w2⟨rfl,rfl⟩)|((with_reducible refine(ah.out _).mono ?_);rintro e w2⟨rfl,rfl⟩))|(go_at_call 82;(with_reducible refine(aA.out _).mono ?_);rintro e w5⟨rfl,am⟩;have ay:=mk0 (kg HB.out am);have aw:=mk0 (Kd.qJ HR.out am);clear HB HR;have HB:=ay;have HR:=aw;clear ay aw am));simp only[jumps];go_ret2;exact⟨_,rfl,Kd.sO _ _ _ _ _,HB.out⟩
            · rw[if_neg hz]at G
              have HN:=mk0 G;have cy:((ln:Int)==0)=false:=beq_eq_false_iff_ne.mpr (by omega);have HZ:=mk0 hz;clear G hz;go_wp2_with(first|(go_at_call 80;(with_reducible refine(HT.out _).mono ?_);rintro e w2⟨rfl,rfl⟩)|(go_at_call 81;first|((with_reducible refine(ar.out _).mono ?_);rintro e w2⟨rfl,rfl⟩)|((with_reducible refine(ah.out _).mono ?_);rintro e w2⟨rfl,rfl⟩))|(go_at_call 82;(with_reducible refine(aA.out _).mono ?_);rintro e w5⟨rfl,am⟩;have ay:=mk0 (kg HB.out am);have aw:=mk0 (Kd.qJ HR.out am);clear HB HR;have HB:=ay;have HR:=aw;clear ay aw am)|((with_reducible refine kW (b:= .append) (xs:=#[.tmp 44, .tmp 47]) rfl ?_);(try(refine qg (by rfl) ?_;dsimp only));at_builtin;refine Kd.rF tq (w0:=w) w.heap.size rfl (.tmp 44) (.tmp 47) 71 118 (.agg #[(.int .i64 0),(.int .i64 0)]) 16 rfl Tryz.underlying71 uG rfl (by decide) (by omega) v xs (⟨(lk:Int),0⟩:kD) [.int .i64 (lk:Int), .int .i64 0] (fun _=>True) (fun _=>False) rfl rfl ?aP (fun _ hk=>hk.elim) ?aF ?aO ?aB ?aS ?aL ?_;(case aP=>exact tF _ _ _ (⟨(lk:Int),0⟩:kD));(case aB=>exact HB.out);(case aF=>exact(fun _ _=>trivial));(case aO=>exact HR.out);(case aS=>exact kN HB.out);(case aL=>omega);intro v1 w3 ho hb hg Z;obtain⟨A3,c3,rfl⟩:=Kd.qw ho;have U:=mk0 hb;have X:=mk0 ho;rw[List.length_append,List.length_singleton]at X;clear hb ho hg Z));go_step3;show J (r1,r2) w 0 _ _∧_;have aJ:=aj.out;have hm:=aR.out;have cO:=az.out;have hz:=HZ.out;have ak:((c::r).drop ln).length=(c::r).length-ln:=List.length_drop;refine⟨⟨U,Or.inl ⟨rfl,k',_,_,_,HN,?_,X,?_⟩⟩,?_⟩
              · rw[List.length_append,List.length_singleton,ak];omega
              · exact⟨_,_,_,_,_,_,_,_,_,_,_,_,_,_,_,_,_,_,_,_,_,_,_,_,_,_,_,_,_,_,_,_,_,_,_,_,_,_,_,_,_,_,_,_,_,_,_,_,_,_,_,_,_,_,_,_,_,_,_,_,_,_,_,_,_,_,_,_,_,_,_,_,_,_,_,_,_,_,_,_,_,_,_,_,_,rfl⟩
              · show 2*(S ((c::r).drop ln)).size+(1-0)<2*(S l).size+(1-0)
                rw[kM,kM,ak];omega
    case p1=>
      rintro a w'⟨HB,⟨bl,_⟩|⟨_,k,c,r,xs,v,HL,aa,ae,HR,aV⟩⟩;(case inl=>omega);obtain⟨u1,u2,u3,u5,u6,u7,u8,u9,bU,bp,bD,bO,b8,cD,cE,bx,co,bB,bL,bh,bE,bj,bF,bX,ci,cf,bv,bP,b4,bk,bG,ca,bW,bR,cC,ck,cv,bH,bc,be,cp,cq,cb,ct,bm,cn,bZ,cF,ch,bV,bu,cG,cA,br,cg,ce,bS,bn,bi,b7,bq,bA,bw,bs,cw,cm,bd,cj,cx,bC,cz,bI,bT,bo,cI,bb,b0,cH,cr,b6,bJ,cJ,bY,b9,bz,rfl⟩:=aV;(obtain⟨l,hl⟩:∃l,c::r=l:=⟨_,rfl⟩);have ab:=byte_at c r;(have a3:l.getD 0 0=c:=by rw[←hl];rfl);(have a6:1≤nD l:=by rw[←hl,nD,if_pos aa];omega);have a8:=uL l;have G:=HL.out;have aM:((c.toNat:Int)==48)=decide (c=48):=by
        rw[Bool.eq_iff_iff,beq_iff_eq,decide_eq_true_eq,Bz]
      rw[hl]at ab G ae⊢;unfold xw at G;rw[a3]at G;(obtain⟨d,hd⟩:∃d,nD l=d:=⟨_,rfl⟩);have ag:=mk0 (fun w=>DZ l w);rw[hd]at G a6 a8 ag;have ak:(l.drop d).length=l.length-d:=List.length_drop;(have aZ:IntKind.i64.wrap (((S l).size:Int)-((S (l.drop d)).size:Int))=(d:Int):=by rw[kM,kM,ak,IntKind.wrap_i64];omega);(have aI:wrap64 (((S l).size:Int)-((S (l.drop d)).size:Int))=(d:Int):=by rw[kM,kM,ak];unfold wrap64;omega);(obtain⟨m,hm⟩:∃m,m=(if d≤10 then d else 10):=⟨_,rfl⟩);(have cK:min (d:Int) 10=(m:Int):=by rw[hm];split<;>omega);(have a4:m≤d∧m≤10∧1≤m∧(d≤10→m=d):=by rw[hm];split<;>omega);have ba:(S l).extract 0 m=S (l.take m):=EU l _;(have bM:(m:Int)≤((S l).size:Int):=by rw[kM];omega);(have bN:m≤(S l).size:=by rw[kM];omega);(have cP:(0:Int)≤(m:Int):=by omega);have aD:=mk0 a4;have aG:=mk0 (And.intro a6 a8);clear hm a4;have ao:(S l).extract d (S l).size=S (l.drop d):=zB l d;have cd:=mk0 (kM l);have cN:=mk0 hl;have aY:=mk0 hd;clear hl hd a3 H0;(obtain⟨sv,L⟩:∃sv,S l=sv:=⟨_,rfl⟩);(obtain⟨dv,aT⟩:∃dv,S (l.drop d)=dv:=⟨_,rfl⟩);have an:=mk0 L;have aH:=mk0 aT;rw[L]at ag ab aZ aI ba ao cd bM bN⊢;rw[aT]at ag aZ aI ao;clear L aT;have HX:=mk0 (And.intro ae ak);clear ae ak HL;by_cases h0:c=48∧1<d
      · rw[if_pos h0]at G
        (have e:([]:List kD)=r1∧(2:Int)=r2:=by cases G;exact⟨rfl,rfl⟩);obtain⟨rfl,rfl⟩:=e;(have cL:((c.toNat:Int)==48)=true:=by rw[aM];exact decide_eq_true h0.1);(have cM:(1:Int)<(d:Int):=by omega);clear G aM h0;go_wp2_with(go_at_call 80;(with_reducible refine(ag.out _).mono ?_);rintro e w2⟨rfl,D⟩;have Y:=mk0 (kg HB.out D);clear D);simp only[jumps];go_ret2;exact⟨_,rfl,Kd.sO _ _ _ _ _,Y.out⟩
      · rw[if_neg h0]at G
        have hA:((c.toNat:Int)=48∧¬(1:Int)<(d:Int))∨¬(c.toNat:Int)=48:=by
          by_cases e:c=48
          · exact Or.inl ⟨by rw[e];rfl,fun h=>h0 ⟨e,by omega⟩⟩
          · exact Or.inr (fun h=>e ((Bz c).mp h))
        clear aM h0;have Z:=mk0 (fun w=>strconv_Atoi.calls (S (l.take m)) ((val (l.take m):Nat):Int) none w (FX l m (by have:=aY.out;omega) aD.out.2.1 aD.out.2.2.1));(have b3:IntKind.i64.wrap ((val (l.take m):Nat):Int)=((val (l.take m):Nat):Int):=by have:=ES l m (by have:=aY.out;omega) aD.out.2.1;rw[IntKind.wrap_i64];omega);(obtain⟨nv,al⟩:∃nv,val (l.take m)=nv:=⟨_,rfl⟩);rw[al]at Z b3;(have ae:xs.length≤60:=by have:=HX.out.1;omega);by_cases h2:10<d
        · rw[if_pos (Or.inl h2)]at G
          (have e:([]:List kD)=r1∧(3:Int)=r2:=by cases G;exact⟨rfl,rfl⟩);obtain⟨rfl,rfl⟩:=e;(have c2:(10:Int)<(d:Int):=by omega);rcases hA with⟨a1,a2⟩|a1
          · omega
          · clear G h2 al
            go_wp2_with(first|(go_at_call 80;(with_reducible refine(ag.out _).mono ?_);rintro e w2⟨rfl,D⟩;have Y:=mk0 (kg HB.out D);have af:=mk0 (Kd.qJ HR.out D);clear D)|(go_at_call 79;(with_reducible refine(Z.out _).mono ?_);rintro e w3⟨rfl,I⟩;have U:=mk0 (kg Y.out I);have X:=mk0 (Kd.qJ af.out I);clear I));simp only[jumps];go_ret2;exact⟨_,rfl,Kd.sO _ _ _ _ _,U.out⟩
        · have b5:m=d:=aD.out.2.2.2 (by omega)
          subst b5;rw[al]at G;(have c2:¬(10:Int)<(m:Int):=by omega);by_cases h3:2147483647<nv
          · rw[if_pos (Or.inr h3)]at G
            (have e:([]:List kD)=r1∧(3:Int)=r2:=by cases G;exact⟨rfl,rfl⟩);obtain⟨rfl,rfl⟩:=e;(have c3:(2147483647:Int)<(nv:Int):=by omega);rcases hA with⟨a1,a2⟩|a1
            · clear G h2 al
              go_wp2_with(first|(go_at_call 80;(with_reducible refine(ag.out _).mono ?_);rintro e w2⟨rfl,D⟩;have Y:=mk0 (kg HB.out D);have af:=mk0 (Kd.qJ HR.out D);clear D)|(go_at_call 79;(with_reducible refine(Z.out _).mono ?_);rintro e w3⟨rfl,I⟩;have U:=mk0 (kg Y.out I);have X:=mk0 (Kd.qJ af.out I);clear I));simp only[jumps];go_ret2;exact⟨_,rfl,Kd.sO _ _ _ _ _,U.out⟩
            · clear G h2 al
              go_wp2_with(first|(go_at_call 80;(with_reducible refine(ag.out _).mono ?_);rintro e w2⟨rfl,D⟩;have Y:=mk0 (kg HB.out D);have af:=mk0 (Kd.qJ HR.out D);clear D)|(go_at_call 79;(with_reducible refine(Z.out _).mono ?_);rintro e w3⟨rfl,I⟩;have U:=mk0 (kg Y.out I);have X:=mk0 (Kd.qJ af.out I);clear I));simp only[jumps];go_ret2;exact⟨_,rfl,Kd.sO _ _ _ _ _,U.out⟩
          · rw[if_neg (fun h=>h.elim h2 h3)]at G
            have HN:=mk0 G;(have c3:¬(2147483647:Int)<(nv:Int):=by omega);rcases hA with⟨a1,a2⟩|a1
            · clear G h2 h3 al
              go_wp2_with(first|(go_at_call 80;(with_reducible refine(ag.out _).mono ?_);rintro e w2⟨rfl,D⟩;have Y:=mk0 (kg HB.out D);have af:=mk0 (Kd.qJ HR.out D);clear D)|(go_at_call 79;(with_reducible refine(Z.out _).mono ?_);rintro e w3⟨rfl,I⟩;have U:=mk0 (kg Y.out I);have X:=mk0 (Kd.qJ af.out I);clear I)|((with_reducible refine kW (b:= .append) (xs:=#[.tmp 79, .tmp 82]) rfl ?_);(try(refine qg (by rfl) ?_;dsimp only));at_builtin;refine Kd.rF tq (w0:=w) w.heap.size rfl (.tmp 79) (.tmp 82) 71 118 (.agg #[(.int .i64 0),(.int .i64 0)]) 16 rfl Tryz.underlying71 uG rfl (by decide) (by omega) v xs (⟨1,(nv:Int)⟩:kD) [.int .i64 1, .int .i64 (nv:Int)] (fun _=>True) (fun _=>False) rfl rfl ?aP (fun _ hk=>hk.elim) ?aF ?aO ?aB ?aS ?aL ?_;(case aP=>exact tF _ _ _ (⟨1,(nv:Int)⟩:kD));(case aB=>exact U.out);(case aF=>exact(fun _ _=>trivial));(case aO=>exact X.out);(case aS=>exact kN U.out);(case aL=>omega);intro v1 w4 ho hb hg av;obtain⟨A3,c3,rfl⟩:=Kd.qw ho;have aQ:=mk0 hb;have ax:=mk0 ho;rw[List.length_append,List.length_singleton]at ax;clear hb ho hg av));go_step3;show J (r1,r2) w 0 _ _∧_;refine⟨⟨aQ,Or.inl ⟨rfl,k,l.drop m,_,_,HN,?_,ax,?_⟩⟩,?_⟩
              · rw[List.length_append,List.length_singleton];have:=HX.out;have:=aG.out;omega
              · rw[aH.out];exact⟨_,_,_,_,_,_,_,_,_,_,_,_,_,_,_,_,_,_,_,_,_,_,_,_,_,_,_,_,_,_,_,_,_,_,_,_,_,_,_,_,_,_,_,_,_,_,_,_,_,_,_,_,_,_,_,_,_,_,_,_,_,_,_,_,_,_,_,_,_,_,_,_,_,_,_,_,_,_,_,_,_,_,_,_,_,rfl⟩
              · show 2*dv.size+(1-0)<2*sv.size+(1-1)
                rw[←aH.out,←an.out,kM,kM];have:=HX.out;have:=aG.out;omega
            · clear G h2 h3 al
              go_wp2_with(first|(go_at_call 80;(with_reducible refine(ag.out _).mono ?_);rintro e w2⟨rfl,D⟩;have Y:=mk0 (kg HB.out D);have af:=mk0 (Kd.qJ HR.out D);clear D)|(go_at_call 79;(with_reducible refine(Z.out _).mono ?_);rintro e w3⟨rfl,I⟩;have U:=mk0 (kg Y.out I);have X:=mk0 (Kd.qJ af.out I);clear I)|((with_reducible refine kW (b:= .append) (xs:=#[.tmp 79, .tmp 82]) rfl ?_);(try(refine qg (by rfl) ?_;dsimp only));at_builtin;refine Kd.rF tq (w0:=w) w.heap.size rfl (.tmp 79) (.tmp 82) 71 118 (.agg #[(.int .i64 0),(.int .i64 0)]) 16 rfl Tryz.underlying71 uG rfl (by decide) (by omega) v xs (⟨1,(nv:Int)⟩:kD) [.int .i64 1, .int .i64 (nv:Int)] (fun _=>True) (fun _=>False) rfl rfl ?aP (fun _ hk=>hk.elim) ?aF ?aO ?aB ?aS ?aL ?_;(case aP=>exact tF _ _ _ (⟨1,(nv:Int)⟩:kD));(case aB=>exact U.out);(case aF=>exact(fun _ _=>trivial));(case aO=>exact X.out);(case aS=>exact kN U.out);(case aL=>omega);intro v1 w4 ho hb hg av;obtain⟨A3,c3,rfl⟩:=Kd.qw ho;have aQ:=mk0 hb;have ax:=mk0 ho;rw[List.length_append,List.length_singleton]at ax;clear hb ho hg av));go_step3;show J (r1,r2) w 0 _ _∧_;refine⟨⟨aQ,Or.inl ⟨rfl,k,l.drop m,_,_,HN,?_,ax,?_⟩⟩,?_⟩
              · rw[List.length_append,List.length_singleton];have:=HX.out;have:=aG.out;omega
              · rw[aH.out];exact⟨_,_,_,_,_,_,_,_,_,_,_,_,_,_,_,_,_,_,_,_,_,_,_,_,_,_,_,_,_,_,_,_,_,_,_,_,_,_,_,_,_,_,_,_,_,_,_,_,_,_,_,_,_,_,_,_,_,_,_,_,_,_,_,_,_,_,_,_,_,_,_,_,_,_,_,_,_,_,_,_,_,_,_,_,_,rfl⟩
              · show 2*dv.size+(1-0)<2*sv.size+(1-1)
                rw[←aH.out,←an.out,kM,kM];have:=HX.out;have:=aG.out;omega
end Go.Proofs.Lx
