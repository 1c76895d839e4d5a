/- span.Parse: the walk over its labels. -/
import Derived.WalkMore
import Derived.Outline
import Derived.Lib.Hide
import Derived.Test.YtcaegaljhogbjaaGreatDoorSpanNext
set_option linter.unusedVariables false
namespace Go.Proofs.Span
open RowKit PW Ext B Goto
theorem CB(c:UInt8)(r:List UInt8)(w:World):
    Calls Tryz.prog 73 #[.string (S (c::r)), .string ⟨#[c]⟩] w fun e w'=>e= .returned (.tuple #[.string (S r), .bool true])∧qm w w':=by
  refine(Tryz.strings_CutPrefix (S (c::r)) ⟨#[c]⟩ w).mono ?_;rintro e w'⟨rfl,rfl⟩;refine⟨?_,qm.refl _⟩;simp[S,Lib.trimPrefix,Lib.hasPrefix]
theorem E8(c:UInt8)(l:List UInt8)(h:l.head?≠some c)(w:World):
    Calls Tryz.prog 73 #[.string (S l), .string ⟨#[c]⟩] w fun e w'=>e= .returned (.tuple #[.string (S l), .bool false])∧qm w w':=by
  refine(Tryz.strings_CutPrefix (S l) ⟨#[c]⟩ w).mono ?_;rintro e w'⟨rfl,rfl⟩;refine⟨?_,qm.refl _⟩;cases l with
  |nil=>simp[S,Lib.trimPrefix,Lib.hasPrefix]
  |cons d l=>
    (have h1:¬c=d:=by intro e;apply h;rw[e];rfl);(have h2:[c].isPrefixOf (d::l)=false:=by simp[List.isPrefixOf,h1]);simp[S,Lib.trimPrefix,Lib.hasPrefix,h2]
theorem IW(c:UInt8)(l:List UInt8)(b:Bool)(h:(l.head?==some c)=b)(w:World):
    Calls Tryz.prog 74 #[.string (S l), .string ⟨#[c]⟩] w fun e w'=>e= .returned (.bool b)∧qm w w':=by
  refine(Tryz.strings_HasPrefix (S l) ⟨#[c]⟩ w).mono ?_;rintro e w'⟨rfl,rfl⟩;refine⟨?_,qm.refl _⟩;rw[←h];cases l with
  |nil=>simp[S,Lib.hasPrefix]
  |cons d l=>
    (have h2:[c].isPrefixOf (d::l)=(d==c):=by simp[List.isPrefixOf,BEq.comm]);simp[S,Lib.hasPrefix,h2]
theorem Di(u:Nat)(D:u<256)(w:World):
    Calls Tryz.prog 77 #[.string ⟨#[72,77,83]⟩, .int .u8 u] w fun e w'=>e= .returned (.int .i64 (place u))∧qm w w':=by
  refine(Tryz.strings_IndexByte ⟨#[72,77,83]⟩ u w).mono ?_;rintro e w'⟨rfl,rfl⟩;refine⟨?_,qm.refl _⟩;have:∀u:Nat,u<256→Lib.indexByte [72,77,83] (u:Int).toNat.toUInt8=place u:=by decide+kernel
  rw[this u D]
def Fr(D G rest:Value)(a:Act):Prop:=∃u0 u1 u2 u3 u5 u6 u7 X ar aU a8 am aZ a0 aG aK aQ a7 ae aY ai a1 ag aE ax aC a9 ak aj a2 ap ab I aX aH aP a5 U aa aL aM aq aN an aJ ah a3 az Z aB a4 aW av ay aw L ao af al au aO aD aA aR aI Y aF aT aS aV a6:Value,a={tmps:=#[u0,u1,u2,u3,D,u5,u6,u7,G,rest,X,ar,aU,a8,am,aZ,a0,aG,aK,aQ,a7,ae,aY,ai,a1,ag,aE,ax,aC,a9,ak,aj,a2,ap,ab,I,aX,aH,aP,a5,U,aa,aL,aM,aq,aN,an,aJ,ah,a3,az,Z,aB,a4,aW,av,ay,aw,L,ao,af,al,au,aO,aD,aA,aR,aI,Y,aF,aT,aS,aV,a6],defers:=[]}
def J(l:List UInt8)(w:World)(D:Nat)(a:Act)(w':World):Prop:=
  Below w.heap.size w w'∧
    ((D=0∧kH l=(0,2)∧∃x y z,Fr x y z a)∨
     (D=1∧∃(r:List UInt8) (t:Nat),vV r t=kH l∧r.length≤l.length∧t<18446744073709551616∧Fr (.int .u64 t) (.int .i64 (-1)) (.string (S r)) a)∨
     (D=2∧∃(r:List UInt8) (t:Nat) (y:Value),(if r=[]then vI t else(0,2))=kH l∧r.length≤l.length∧t<18446744073709551616∧Fr (.int .u64 t) y (.string (S r)) a)∨
     (D=3∧∃(r:List UInt8) (t k:Nat) (p:Int),sJ (k+1) r t p=kH l∧ -1≤p∧p≤2∧2≤k+p∧r.length≤l.length∧t<18446744073709551616∧Fr (.int .u64 t) (.int .i64 p) (.string (S r)) a))
def μ(D:Nat)(a:Act):Nat:=if D=1 then 20 else if D=3 then(10-intOf (a.tmps.getD 8 undef)).toNat else if D=2 then 3 else 1
theorem sN{w w':World}(h:Below w.heap.size w w')(n:Nat):Below w.heap.size w (w'.drewN n):=below_drewN h n
theorem sM{w w1 D:World}(h:Below w.heap.size w w1)(h2:Below w1.heap.size w1 D):Below w.heap.size w D:=h.trans (h2.mono h.size)
theorem xu(r:List UInt8)(D:r.length≤140737488351232):∃(n u:Nat) (r':List UInt8),qP r=(n,u,r')∧n<1000000000000000∧u<256∧r'.length≤r.length∧
    ∀w,Calls Tryz.prog 75 #[.string (S r)] w fun e w'=>e= .returned (.tuple #[.int .u64 n, .int .u8 u, .string (S r')])∧Below w.heap.size w w':=
  ⟨(qP r).1,(qP r).2.1,(qP r).2.2,rfl,(xR r).1,(xR r).2.1,(xR r).2.2,fun w=>EK r D w⟩
theorem Fv(r:List UInt8):(S r).toList.isEmpty=r.isEmpty:=by rw[Lib.toList_data,sP]
theorem tJ:(S ([]:List UInt8)).toList.isEmpty=true:=Fv []
theorem uz(r:List UInt8)(h:r≠[]):(S r).toList.isEmpty=false:=by
  rw[Fv];cases r with
  |nil=>exact absurd rfl h
  |cons c r=>rfl
theorem JD(u k:Nat)(h:u≠k):((u:Int)==(k:Int))=false:=by rw[beq_eq_false_iff_ne];omega
theorem Cj{l:List UInt8}{c:UInt8}(h:l.head?=some c):∃r,l=c::r:=by
  cases l with
  |nil=>cases h
  |cons d r=>exact⟨r,by rw[Option.some.inj h]⟩
theorem ED(r:List UInt8)(h:r.head?=some 84):kH (80::r)=vV r 0:=if_pos h
theorem EB(r:List UInt8)(h:¬r.head?=some 84):kH (80::r)=wP r:=if_neg h
theorem I4(l:List UInt8)(h:¬l.head?=some 80):kH l=(0,2):=by
  unfold kH
  split
  · exact absurd rfl h
  · rfl
theorem Fy(l:List UInt8)(t:Nat)(h:¬l.head?=some 84):vV l t=(0,2):=by
  unfold vV
  split
  · exact absurd rfl h
  · rfl
theorem tZ(u:Nat)(p:Int)(h:place u=p)(D:u<256)(w:World):
    Calls Tryz.prog 77 #[.string ⟨#[72,77,83]⟩, .int .u8 u] w fun e w'=>e= .returned (.int .i64 p)∧qm w w':=h▸Di u D w
theorem yj(k:Nat)(l:List UInt8)(t:Nat)(p:Int)(h:place (qP l).2.1≤p):sJ (k+1) l t p=(0,2):=if_pos h
theorem uY(k:Nat)(l:List UInt8)(t:Nat)(p:Int)(h:p<place (qP l).2.1)(h2:(qP l).2.2=[]):sJ (k+1) l t p=vI (qR t (qP l).1 (z8 (place (qP l).2.1))):=by
  unfold sJ;rw[if_neg (by omega),if_pos h2]
theorem uH(k:Nat)(l:List UInt8)(t:Nat)(p:Int)(h:p<place (qP l).2.1)(h2:(qP l).2.2≠[]):sJ (k+1) l t p=sJ k (qP l).2.2 (qR t (qP l).1 (z8 (place (qP l).2.1))) (place (qP l).2.1):=by
  rw[sJ];rw[if_neg (by omega),if_neg h2]
theorem uN(t:Nat)(h:1125899906842624<t):vI t=(0,3):=if_pos h
theorem wV(t:Nat)(h:t≤1125899906842624):vI t=(t,0):=if_neg (by omega)
theorem Kk(W:World):(Instr.index 111 (.agg #[.int .u64 3600, .int .u64 60, .int .u64 1]) (.int .i64 0)).run Tryz.prog W= .ok (.int .u64 3600) W:=by kernel_rfl
theorem Ky(W:World):(Instr.index 111 (.agg #[.int .u64 3600, .int .u64 60, .int .u64 1]) (.int .i64 1)).run Tryz.prog W= .ok (.int .u64 60) W:=by kernel_rfl
theorem KL(W:World):(Instr.index 111 (.agg #[.int .u64 3600, .int .u64 60, .int .u64 1]) (.int .i64 2)).run Tryz.prog W= .ok (.int .u64 1) W:=by kernel_rfl
set_option maxRecDepth 100000 in
set_option maxHeartbeats 40000000 in
theorem Dz(l:List UInt8)(hl:l.length≤140737488351232)(w:World):
    Calls Tryz.prog 57 #[.string (S l)] w fun e w'=>e= .returned (.tuple #[.int .u64 (kH l).1, .int .i64 (kH l).2])∧Below w.heap.size w w':=by
  go_enter Tryz.func57,Tryz.ntmps57;go_wp2;refine zO (J l w) (fun bI a _=>μ bI a) rfl rfl rfl rfl ?hl ?first ?p0 ?p1 ?p2 ?p3;case hl=>rintro bI a w'⟨_,⟨rfl,_⟩|⟨rfl,_⟩|⟨rfl,_⟩|⟨rfl,_⟩⟩<;>omega
  case first=>
    by_cases aw:l.head?=some 80
    · obtain⟨r,el⟩:=Cj aw
      have hc:=fun w=>el▸CB 80 r w;(have bM:r.length≤l.length:=by rw[el,List.length_cons];omega);have HL:=Lib.hid el;clear el aw;cases hT:(r.head?==some 84)with
      |true=>
        have hh:=fun w=>IW 84 r true hT w;(have hp:vV r 0=kH l:=by rw[HL.out];exact(ED r (by simpa using hT)).symm);have HP:=Lib.hid hp;clear hp hT;go_wp2_with(first|(go_at_call 73;refine(hc _).mono ?_;rintro e w'⟨rfl,⟨ag,rfl⟩⟩)|(go_at_call 74;refine(hh _).mono ?_;rintro e w'⟨rfl,⟨ah,rfl⟩⟩));go_step3;show J _ w 1 _ _;refine⟨(by repeat(first|exact Below.refl _ _|with_reducible assumption|refine sN ?_ _|refine sM ?_ (by with_reducible assumption))),Or.inr (Or.inl ⟨rfl,r,0,HP.out,bM,by omega,?_⟩)⟩;exact⟨_,_,_,_,_,_,_,_,_,_,_,_,_,_,_,_,_,_,_,_,_,_,_,_,_,_,_,_,_,_,_,_,_,_,_,_,_,_,_,_,_,_,_,_,_,_,_,_,_,_,_,_,_,_,_,_,_,_,_,_,_,_,_,_,_,_,_,_,_,_,_,rfl⟩
      |false=>
        have hh:=fun w=>IW 84 r false hT w;(have hp:kH l=wP r:=by rw[HL.out];exact EB r (by simpa using hT));have HP:=Lib.hid hp;clear hp hT;obtain⟨n,u,r1,hn,_,_,bJ,ak⟩:=xu r (by omega);have HN:=Lib.hid hn;clear hn;by_cases aA:u=89
        · subst aA
          (have hE:kH l=(0,4):=by rw[HP.out];unfold wP;rw[HN.out];rfl);have HE:=Lib.hid hE;clear hE;go_wp2_with(first|(go_at_call 73;refine(hc _).mono ?_;rintro e w'⟨rfl,⟨ag,rfl⟩⟩)|(go_at_call 74;refine(hh _).mono ?_;rintro e w'⟨rfl,⟨ah,rfl⟩⟩)|(go_at_call 75;refine(ak _).mono ?_;rintro e w'⟨rfl,Z⟩));simp only[jumps];go_ret2;exact⟨by rw[HE.out];rfl,(by repeat(first|exact Below.refl _ _|with_reducible assumption|refine sN ?_ _|refine sM ?_ (by with_reducible assumption)))⟩
        · skip
          by_cases aW:u=77
          · subst aW
            (have hE:kH l=(0,4):=by rw[HP.out];unfold wP;rw[HN.out];rfl);have HE:=Lib.hid hE;clear hE;go_wp2_with(first|(go_at_call 73;refine(hc _).mono ?_;rintro e w'⟨rfl,⟨ag,rfl⟩⟩)|(go_at_call 74;refine(hh _).mono ?_;rintro e w'⟨rfl,⟨ah,rfl⟩⟩)|(go_at_call 75;refine(ak _).mono ?_;rintro e w'⟨rfl,Z⟩));simp only[jumps];go_ret2;exact⟨by rw[HE.out];rfl,(by repeat(first|exact Below.refl _ _|with_reducible assumption|refine sN ?_ _|refine sM ?_ (by with_reducible assumption)))⟩
          · skip
            by_cases ax:u=87
            · subst ax
              (have hE:(if r1=[]then vI (qR 0 n 604800)else(0,2))=kH l:=by rw[HP.out];unfold wP;rw[HN.out];rfl);have HE:=Lib.hid hE;clear hE;have hm:=fun w=>sI 0 n 604800 (by omega) (by omega) (by omega) w;have X:=Lib.hid (rJ 0 n 604800);generalize qR 0 n 604800=t at*;go_wp2_with(first|(go_at_call 73;refine(hc _).mono ?_;rintro e w'⟨rfl,⟨ag,rfl⟩⟩)|(go_at_call 74;refine(hh _).mono ?_;rintro e w'⟨rfl,⟨ah,rfl⟩⟩)|(go_at_call 75;refine(ak _).mono ?_;rintro e w'⟨rfl,Z⟩)|(go_at_call 76;refine(hm _).mono ?_;rintro e w'⟨rfl,⟨aj,rfl⟩⟩));go_step3;show J _ w 2 _ _;refine⟨(by repeat(first|exact Below.refl _ _|with_reducible assumption|refine sN ?_ _|refine sM ?_ (by with_reducible assumption))),Or.inr (Or.inr (Or.inl ⟨rfl,r1,t,?_⟩))⟩;exact⟨_,HE.out,by omega,X.out,⟨_,_,_,_,_,_,_,_,_,_,_,_,_,_,_,_,_,_,_,_,_,_,_,_,_,_,_,_,_,_,_,_,_,_,_,_,_,_,_,_,_,_,_,_,_,_,_,_,_,_,_,_,_,_,_,_,_,_,_,_,_,_,_,_,_,_,_,_,_,_,_,rfl⟩⟩
            · skip
              by_cases ay:u=68
              · subst ay
                (have hE:(if r1=[]then vI (qR 0 n 86400)else vV r1 (qR 0 n 86400))=kH l:=by rw[HP.out];unfold wP;rw[HN.out];rfl);have HE:=Lib.hid hE;clear hE;have hm:=fun w=>sI 0 n 86400 (by omega) (by omega) (by omega) w;have ai:=Lib.hid (rJ 0 n 86400);generalize qR 0 n 86400=t at*;by_cases hz:r1=[]
                · subst hz
                  have hG:(if([]:List UInt8)=[]then vI t else(0,2))=kH l:=HE.out;have HG:=Lib.hid hG;clear hG;have aa:=tJ;go_wp2_with(first|(go_at_call 73;refine(hc _).mono ?_;rintro e w'⟨rfl,⟨ag,rfl⟩⟩)|(go_at_call 74;refine(hh _).mono ?_;rintro e w'⟨rfl,⟨ah,rfl⟩⟩)|(go_at_call 75;refine(ak _).mono ?_;rintro e w'⟨rfl,Z⟩)|(go_at_call 76;refine(hm _).mono ?_;rintro e w'⟨rfl,⟨aj,rfl⟩⟩));go_step3;show J _ w 2 _ _;refine⟨(by repeat(first|exact Below.refl _ _|with_reducible assumption|refine sN ?_ _|refine sM ?_ (by with_reducible assumption))),Or.inr (Or.inr (Or.inl ⟨rfl,[],t,?_⟩))⟩;exact⟨_,HG.out,by simp,ai.out,⟨_,_,_,_,_,_,_,_,_,_,_,_,_,_,_,_,_,_,_,_,_,_,_,_,_,_,_,_,_,_,_,_,_,_,_,_,_,_,_,_,_,_,_,_,_,_,_,_,_,_,_,_,_,_,_,_,_,_,_,_,_,_,_,_,_,_,_,_,_,_,_,rfl⟩⟩
                · have hG:vV r1 t=kH l:=by rw[←HE.out,if_neg hz]
                  have HG:=Lib.hid hG;clear hG;have aa:=uz r1 hz;clear hz;by_cases an:r1.head?=some 84
                  · obtain⟨r2,e2⟩:=Cj an
                    have hd:=fun w=>e2▸CB 84 r2 w;(have av:r2.length≤140737488351232:=by rw[e2,List.length_cons]at bJ;omega);(have hG:sJ (3+1) r2 t (-1)=kH l:=by rw[←HG.out,e2];rfl);have HQ:=Lib.hid hG;(have bL:r2.length≤l.length:=by rw[e2,List.length_cons]at bJ;omega);clear hG e2 an;obtain⟨n2,u2,r3,au,az,aq,bH,U⟩:=xu r2 av;have HM:=Lib.hid au;clear au;by_cases ap:u2=72
                    · subst ap
                      have hi:=fun w=>tZ 72 0 rfl (by omega) w;have ar:=Kk;have hk:=fun w=>sI t n2 3600 ai.out (by omega) (by omega) w;(have Y:(-1:Int)<place (qP r2).2.1:=by rw[HM.out];show(-1:Int)<(0:Int);omega);have af:=Lib.hid Y;clear Y;by_cases hz:r3=[]
                      · subst hz
                        have hE:kH l=vI (qR t n2 3600):=by
                          rw[←HQ.out];exact(uY _ _ _ _ af.out (by rw[HM.out])).trans (by rw[HM.out];rfl)
                        have HE:=Lib.hid hE;clear hE;have aa:=tJ;have X:=Lib.hid (rJ t n2 3600);generalize qR t n2 3600=t2 at*;by_cases ae:1125899906842624<t2
                        · have HF:=Lib.hid (HE.out.trans (uN _ ae))
                          go_wp2_with(first|(go_at_call 73;refine(hc _).mono ?_;rintro e w'⟨rfl,⟨ag,rfl⟩⟩)|(go_at_call 74;refine(hh _).mono ?_;rintro e w'⟨rfl,⟨ah,rfl⟩⟩)|(go_at_call 75;refine(ak _).mono ?_;rintro e w'⟨rfl,Z⟩)|(go_at_call 76;refine(hm _).mono ?_;rintro e w'⟨rfl,⟨aj,rfl⟩⟩));go_step3;go_wp2_with(first|(go_at_call 73;refine(hd _).mono ?_;rintro e w'⟨rfl,⟨L,rfl⟩⟩)|(go_at_call 75;refine(U _).mono ?_;rintro e w'⟨rfl,D⟩)|(go_at_call 77;refine(hi _).mono ?_;rintro e w'⟨rfl,⟨G,rfl⟩⟩)|(go_at_call 76;refine(hk _).mono ?_;rintro e w'⟨rfl,⟨I,rfl⟩⟩));go_step3;go_wp2_with(first|(go_at_call 73;refine(hd _).mono ?_;rintro e w'⟨rfl,⟨L,rfl⟩⟩)|(go_at_call 75;refine(U _).mono ?_;rintro e w'⟨rfl,D⟩)|(go_at_call 77;refine(hi _).mono ?_;rintro e w'⟨rfl,⟨G,rfl⟩⟩)|(go_at_call 76;refine(hk _).mono ?_;rintro e w'⟨rfl,⟨I,rfl⟩⟩));go_step3;go_wp2_with fail;simp only[jumps];go_ret2;exact⟨by rw[HF.out];rfl,(by repeat(first|exact Below.refl _ _|with_reducible assumption|refine sN ?_ _|refine sM ?_ (by with_reducible assumption)))⟩
                        · have ab:t2≤1125899906842624:=by omega
                          clear ae;have HF:=Lib.hid (HE.out.trans (wV _ ab));go_wp2_with(first|(go_at_call 73;refine(hc _).mono ?_;rintro e w'⟨rfl,⟨ag,rfl⟩⟩)|(go_at_call 74;refine(hh _).mono ?_;rintro e w'⟨rfl,⟨ah,rfl⟩⟩)|(go_at_call 75;refine(ak _).mono ?_;rintro e w'⟨rfl,Z⟩)|(go_at_call 76;refine(hm _).mono ?_;rintro e w'⟨rfl,⟨aj,rfl⟩⟩));go_step3;go_wp2_with(first|(go_at_call 73;refine(hd _).mono ?_;rintro e w'⟨rfl,⟨L,rfl⟩⟩)|(go_at_call 75;refine(U _).mono ?_;rintro e w'⟨rfl,D⟩)|(go_at_call 77;refine(hi _).mono ?_;rintro e w'⟨rfl,⟨G,rfl⟩⟩)|(go_at_call 76;refine(hk _).mono ?_;rintro e w'⟨rfl,⟨I,rfl⟩⟩));go_step3;go_wp2_with(first|(go_at_call 73;refine(hd _).mono ?_;rintro e w'⟨rfl,⟨L,rfl⟩⟩)|(go_at_call 75;refine(U _).mono ?_;rintro e w'⟨rfl,D⟩)|(go_at_call 77;refine(hi _).mono ?_;rintro e w'⟨rfl,⟨G,rfl⟩⟩)|(go_at_call 76;refine(hk _).mono ?_;rintro e w'⟨rfl,⟨I,rfl⟩⟩));go_step3;go_wp2_with fail;simp only[jumps];go_ret2;exact⟨by rw[HF.out];rfl,(by repeat(first|exact Below.refl _ _|with_reducible assumption|refine sN ?_ _|refine sM ?_ (by with_reducible assumption)))⟩
                      · have aa:=uz r3 hz
                        have hE:sJ 3 r3 (qR t n2 3600) 0=kH l:=by
                          rw[←HQ.out];exact((uH _ _ _ _ af.out (by rw[HM.out];exact hz)).trans (by rw[HM.out];rfl)).symm
                        have HE:=Lib.hid hE;clear hE hz;have X:=Lib.hid (rJ t n2 3600);generalize qR t n2 3600=t2 at*;go_wp2_with(first|(go_at_call 73;refine(hc _).mono ?_;rintro e w'⟨rfl,⟨ag,rfl⟩⟩)|(go_at_call 74;refine(hh _).mono ?_;rintro e w'⟨rfl,⟨ah,rfl⟩⟩)|(go_at_call 75;refine(ak _).mono ?_;rintro e w'⟨rfl,Z⟩)|(go_at_call 76;refine(hm _).mono ?_;rintro e w'⟨rfl,⟨aj,rfl⟩⟩));go_step3;go_wp2_with(first|(go_at_call 73;refine(hd _).mono ?_;rintro e w'⟨rfl,⟨L,rfl⟩⟩)|(go_at_call 75;refine(U _).mono ?_;rintro e w'⟨rfl,D⟩)|(go_at_call 77;refine(hi _).mono ?_;rintro e w'⟨rfl,⟨G,rfl⟩⟩)|(go_at_call 76;refine(hk _).mono ?_;rintro e w'⟨rfl,⟨I,rfl⟩⟩));go_step3;go_wp2_with(first|(go_at_call 73;refine(hd _).mono ?_;rintro e w'⟨rfl,⟨L,rfl⟩⟩)|(go_at_call 75;refine(U _).mono ?_;rintro e w'⟨rfl,D⟩)|(go_at_call 77;refine(hi _).mono ?_;rintro e w'⟨rfl,⟨G,rfl⟩⟩)|(go_at_call 76;refine(hk _).mono ?_;rintro e w'⟨rfl,⟨I,rfl⟩⟩));go_step3;show J _ w 3 _ _;refine⟨(by repeat(first|exact Below.refl _ _|with_reducible assumption|refine sN ?_ _|refine sM ?_ (by with_reducible assumption))),Or.inr (Or.inr (Or.inr ⟨rfl,r3,t2,2,0,HE.out,by omega,by omega,by omega,by omega,X.out,?_⟩))⟩;exact⟨_,_,_,_,_,_,_,_,_,_,_,_,_,_,_,_,_,_,_,_,_,_,_,_,_,_,_,_,_,_,_,_,_,_,_,_,_,_,_,_,_,_,_,_,_,_,_,_,_,_,_,_,_,_,_,_,_,_,_,_,_,_,_,_,_,_,_,_,_,_,_,rfl⟩
                    · skip
                      by_cases am:u2=77
                      · subst am
                        have hi:=fun w=>tZ 77 1 rfl (by omega) w;have ar:=Ky;have hk:=fun w=>sI t n2 60 ai.out (by omega) (by omega) w;(have Y:(-1:Int)<place (qP r2).2.1:=by rw[HM.out];show(-1:Int)<(1:Int);omega);have af:=Lib.hid Y;clear Y;by_cases hz:r3=[]
                        · subst hz
                          have hE:kH l=vI (qR t n2 60):=by
                            rw[←HQ.out];exact(uY _ _ _ _ af.out (by rw[HM.out])).trans (by rw[HM.out];rfl)
                          have HE:=Lib.hid hE;clear hE;have aa:=tJ;have X:=Lib.hid (rJ t n2 60);generalize qR t n2 60=t2 at*;by_cases ae:1125899906842624<t2
                          · have HF:=Lib.hid (HE.out.trans (uN _ ae))
                            go_wp2_with(first|(go_at_call 73;refine(hc _).mono ?_;rintro e w'⟨rfl,⟨ag,rfl⟩⟩)|(go_at_call 74;refine(hh _).mono ?_;rintro e w'⟨rfl,⟨ah,rfl⟩⟩)|(go_at_call 75;refine(ak _).mono ?_;rintro e w'⟨rfl,Z⟩)|(go_at_call 76;refine(hm _).mono ?_;rintro e w'⟨rfl,⟨aj,rfl⟩⟩));go_step3;go_wp2_with(first|(go_at_call 73;refine(hd _).mono ?_;rintro e w'⟨rfl,⟨L,rfl⟩⟩)|(go_at_call 75;refine(U _).mono ?_;rintro e w'⟨rfl,D⟩)|(go_at_call 77;refine(hi _).mono ?_;rintro e w'⟨rfl,⟨G,rfl⟩⟩)|(go_at_call 76;refine(hk _).mono ?_;rintro e w'⟨rfl,⟨I,rfl⟩⟩));go_step3;go_wp2_with(first|(go_at_call 73;refine(hd _).mono ?_;rintro e w'⟨rfl,⟨L,rfl⟩⟩)|(go_at_call 75;refine(U _).mono ?_;rintro e w'⟨rfl,D⟩)|(go_at_call 77;refine(hi _).mono ?_;rintro e w'⟨rfl,⟨G,rfl⟩⟩)|(go_at_call 76;refine(hk _).mono ?_;rintro e w'⟨rfl,⟨I,rfl⟩⟩));go_step3;go_wp2_with fail;simp only[jumps];go_ret2;exact⟨by rw[HF.out];rfl,(by repeat(first|exact Below.refl _ _|with_reducible assumption|refine sN ?_ _|refine sM ?_ (by with_reducible assumption)))⟩
                          · have ab:t2≤1125899906842624:=by omega
                            clear ae;have HF:=Lib.hid (HE.out.trans (wV _ ab));go_wp2_with(first|(go_at_call 73;refine(hc _).mono ?_;rintro e w'⟨rfl,⟨ag,rfl⟩⟩)|(go_at_call 74;refine(hh _).mono ?_;rintro e w'⟨rfl,⟨ah,rfl⟩⟩)|(go_at_call 75;refine(ak _).mono ?_;rintro e w'⟨rfl,Z⟩)|(go_at_call 76;refine(hm _).mono ?_;rintro e w'⟨rfl,⟨aj,rfl⟩⟩));go_step3;go_wp2_with(first|(go_at_call 73;refine(hd _).mono ?_;rintro e w'⟨rfl,⟨L,rfl⟩⟩)|(go_at_call 75;refine(U _).mono ?_;rintro e w'⟨rfl,D⟩)|(go_at_call 77;refine(hi _).mono ?_;rintro e w'⟨rfl,⟨G,rfl⟩⟩)|(go_at_call 76;refine(hk _).mono ?_;rintro e w'⟨rfl,⟨I,rfl⟩⟩));go_step3;go_wp2_with(first|(go_at_call 73;refine(hd _).mono ?_;rintro e w'⟨rfl,⟨L,rfl⟩⟩)|(go_at_call 75;refine(U _).mono ?_;rintro e w'⟨rfl,D⟩)|(go_at_call 77;refine(hi _).mono ?_;rintro e w'⟨rfl,⟨G,rfl⟩⟩)|(go_at_call 76;refine(hk _).mono ?_;rintro e w'⟨rfl,⟨I,rfl⟩⟩));go_step3;go_wp2_with fail;simp only[jumps];go_ret2;exact⟨by rw[HF.out];rfl,(by repeat(first|exact Below.refl _ _|with_reducible assumption|refine sN ?_ _|refine sM ?_ (by with_reducible assumption)))⟩
                        · have aa:=uz r3 hz
                          have hE:sJ 3 r3 (qR t n2 60) 1=kH l:=by
                            rw[←HQ.out];exact((uH _ _ _ _ af.out (by rw[HM.out];exact hz)).trans (by rw[HM.out];rfl)).symm
                          have HE:=Lib.hid hE;clear hE hz;have X:=Lib.hid (rJ t n2 60);generalize qR t n2 60=t2 at*;go_wp2_with(first|(go_at_call 73;refine(hc _).mono ?_;rintro e w'⟨rfl,⟨ag,rfl⟩⟩)|(go_at_call 74;refine(hh _).mono ?_;rintro e w'⟨rfl,⟨ah,rfl⟩⟩)|(go_at_call 75;refine(ak _).mono ?_;rintro e w'⟨rfl,Z⟩)|(go_at_call 76;refine(hm _).mono ?_;rintro e w'⟨rfl,⟨aj,rfl⟩⟩));go_step3;go_wp2_with(first|(go_at_call 73;refine(hd _).mono ?_;rintro e w'⟨rfl,⟨L,rfl⟩⟩)|(go_at_call 75;refine(U _).mono ?_;rintro e w'⟨rfl,D⟩)|(go_at_call 77;refine(hi _).mono ?_;rintro e w'⟨rfl,⟨G,rfl⟩⟩)|(go_at_call 76;refine(hk _).mono ?_;rintro e w'⟨rfl,⟨I,rfl⟩⟩));go_step3;go_wp2_with(first|(go_at_call 73;refine(hd _).mono ?_;rintro e w'⟨rfl,⟨L,rfl⟩⟩)|(go_at_call 75;refine(U _).mono ?_;rintro e w'⟨rfl,D⟩)|(go_at_call 77;refine(hi _).mono ?_;rintro e w'⟨rfl,⟨G,rfl⟩⟩)|(go_at_call 76;refine(hk _).mono ?_;rintro e w'⟨rfl,⟨I,rfl⟩⟩));go_step3;show J _ w 3 _ _;refine⟨(by repeat(first|exact Below.refl _ _|with_reducible assumption|refine sN ?_ _|refine sM ?_ (by with_reducible assumption))),Or.inr (Or.inr (Or.inr ⟨rfl,r3,t2,2,1,HE.out,by omega,by omega,by omega,by omega,X.out,?_⟩))⟩;exact⟨_,_,_,_,_,_,_,_,_,_,_,_,_,_,_,_,_,_,_,_,_,_,_,_,_,_,_,_,_,_,_,_,_,_,_,_,_,_,_,_,_,_,_,_,_,_,_,_,_,_,_,_,_,_,_,_,_,_,_,_,_,_,_,_,_,_,_,_,_,_,_,rfl⟩
                      · skip
                        by_cases al:u2=83
                        · subst al
                          have hi:=fun w=>tZ 83 2 rfl (by omega) w;have ar:=KL;have hk:=fun w=>sI t n2 1 ai.out (by omega) (by omega) w;(have Y:(-1:Int)<place (qP r2).2.1:=by rw[HM.out];show(-1:Int)<(2:Int);omega);have af:=Lib.hid Y;clear Y;by_cases hz:r3=[]
                          · subst hz
                            have hE:kH l=vI (qR t n2 1):=by
                              rw[←HQ.out];exact(uY _ _ _ _ af.out (by rw[HM.out])).trans (by rw[HM.out];rfl)
                            have HE:=Lib.hid hE;clear hE;have aa:=tJ;have X:=Lib.hid (rJ t n2 1);generalize qR t n2 1=t2 at*;by_cases ae:1125899906842624<t2
                            · have HF:=Lib.hid (HE.out.trans (uN _ ae))
                              go_wp2_with(first|(go_at_call 73;refine(hc _).mono ?_;rintro e w'⟨rfl,⟨ag,rfl⟩⟩)|(go_at_call 74;refine(hh _).mono ?_;rintro e w'⟨rfl,⟨ah,rfl⟩⟩)|(go_at_call 75;refine(ak _).mono ?_;rintro e w'⟨rfl,Z⟩)|(go_at_call 76;refine(hm _).mono ?_;rintro e w'⟨rfl,⟨aj,rfl⟩⟩));go_step3;go_wp2_with(first|(go_at_call 73;refine(hd _).mono ?_;rintro e w'⟨rfl,⟨L,rfl⟩⟩)|(go_at_call 75;refine(U _).mono ?_;rintro e w'⟨rfl,D⟩)|(go_at_call 77;refine(hi _).mono ?_;rintro e w'⟨rfl,⟨G,rfl⟩⟩)|(go_at_call 76;refine(hk _).mono ?_;rintro e w'⟨rfl,⟨I,rfl⟩⟩));go_step3;go_wp2_with(first|(go_at_call 73;refine(hd _).mono ?_;rintro e w'⟨rfl,⟨L,rfl⟩⟩)|(go_at_call 75;refine(U _).mono ?_;rintro e w'⟨rfl,D⟩)|(go_at_call 77;refine(hi _).mono ?_;rintro e w'⟨rfl,⟨G,rfl⟩⟩)|(go_at_call 76;refine(hk _).mono ?_;rintro e w'⟨rfl,⟨I,rfl⟩⟩));go_step3;go_wp2_with fail;simp only[jumps];go_ret2;exact⟨by rw[HF.out];rfl,(by repeat(first|exact Below.refl _ _|with_reducible assumption|refine sN ?_ _|refine sM ?_ (by with_reducible assumption)))⟩
                            · have ab:t2≤1125899906842624:=by omega
                              clear ae;have HF:=Lib.hid (HE.out.trans (wV _ ab));go_wp2_with(first|(go_at_call 73;refine(hc _).mono ?_;rintro e w'⟨rfl,⟨ag,rfl⟩⟩)|(go_at_call 74;refine(hh _).mono ?_;rintro e w'⟨rfl,⟨ah,rfl⟩⟩)|(go_at_call 75;refine(ak _).mono ?_;rintro e w'⟨rfl,Z⟩)|(go_at_call 76;refine(hm _).mono ?_;rintro e w'⟨rfl,⟨aj,rfl⟩⟩));go_step3;go_wp2_with(first|(go_at_call 73;refine(hd _).mono ?_;rintro e w'⟨rfl,⟨L,rfl⟩⟩)|(go_at_call 75;refine(U _).mono ?_;rintro e w'⟨rfl,D⟩)|(go_at_call 77;refine(hi _).mono ?_;rintro e w'⟨rfl,⟨G,rfl⟩⟩)|(go_at_call 76;refine(hk _).mono ?_;rintro e w'⟨rfl,⟨I,rfl⟩⟩));go_step3;go_wp2_with(first|(go_at_call 73;refine(hd _).mono ?_;rintro e w'⟨rfl,⟨L,rfl⟩⟩)|(go_at_call 75;refine(U _).mono ?_;rintro e w'⟨rfl,D⟩)|(go_at_call 77;refine(hi _).mono ?_;rintro e w'⟨rfl,⟨G,rfl⟩⟩)|(go_at_call 76;refine(hk _).mono ?_;rintro e w'⟨rfl,⟨I,rfl⟩⟩));go_step3;go_wp2_with fail;simp only[jumps];go_ret2;exact⟨by rw[HF.out];rfl,(by repeat(first|exact Below.refl _ _|with_reducible assumption|refine sN ?_ _|refine sM ?_ (by with_reducible assumption)))⟩
                          · have aa:=uz r3 hz
                            have hE:sJ 3 r3 (qR t n2 1) 2=kH l:=by
                              rw[←HQ.out];exact((uH _ _ _ _ af.out (by rw[HM.out];exact hz)).trans (by rw[HM.out];rfl)).symm
                            have HE:=Lib.hid hE;clear hE hz;have X:=Lib.hid (rJ t n2 1);generalize qR t n2 1=t2 at*;go_wp2_with(first|(go_at_call 73;refine(hc _).mono ?_;rintro e w'⟨rfl,⟨ag,rfl⟩⟩)|(go_at_call 74;refine(hh _).mono ?_;rintro e w'⟨rfl,⟨ah,rfl⟩⟩)|(go_at_call 75;refine(ak _).mono ?_;rintro e w'⟨rfl,Z⟩)|(go_at_call 76;refine(hm _).mono ?_;rintro e w'⟨rfl,⟨aj,rfl⟩⟩));go_step3;go_wp2_with(first|(go_at_call 73;refine(hd _).mono ?_;rintro e w'⟨rfl,⟨L,rfl⟩⟩)|(go_at_call 75;refine(U _).mono ?_;rintro e w'⟨rfl,D⟩)|(go_at_call 77;refine(hi _).mono ?_;rintro e w'⟨rfl,⟨G,rfl⟩⟩)|(go_at_call 76;refine(hk _).mono ?_;rintro e w'⟨rfl,⟨I,rfl⟩⟩));go_step3;go_wp2_with(first|(go_at_call 73;refine(hd _).mono ?_;rintro e w'⟨rfl,⟨L,rfl⟩⟩)|(go_at_call 75;refine(U _).mono ?_;rintro e w'⟨rfl,D⟩)|(go_at_call 77;refine(hi _).mono ?_;rintro e w'⟨rfl,⟨G,rfl⟩⟩)|(go_at_call 76;refine(hk _).mono ?_;rintro e w'⟨rfl,⟨I,rfl⟩⟩));go_step3;show J _ w 3 _ _;refine⟨(by repeat(first|exact Below.refl _ _|with_reducible assumption|refine sN ?_ _|refine sM ?_ (by with_reducible assumption))),Or.inr (Or.inr (Or.inr ⟨rfl,r3,t2,2,2,HE.out,by omega,by omega,by omega,by omega,X.out,?_⟩))⟩;exact⟨_,_,_,_,_,_,_,_,_,_,_,_,_,_,_,_,_,_,_,_,_,_,_,_,_,_,_,_,_,_,_,_,_,_,_,_,_,_,_,_,_,_,_,_,_,_,_,_,_,_,_,_,_,_,_,_,_,_,_,_,_,_,_,_,_,_,_,_,_,_,_,rfl⟩
                        · skip
                          (have ao:place u2= -1:=by unfold place;rw[if_neg ap,if_neg am,if_neg al]);have hi:=fun w=>tZ u2 (-1) ao aq w;have hE:kH l=(0,2):=by
                            rw[←HQ.out];exact yj _ _ _ _ (by rw[HM.out];show place u2≤ -1;rw[ao];omega)
                          have HE:=Lib.hid hE;clear hE ao ap am al;go_wp2_with(first|(go_at_call 73;refine(hc _).mono ?_;rintro e w'⟨rfl,⟨ag,rfl⟩⟩)|(go_at_call 74;refine(hh _).mono ?_;rintro e w'⟨rfl,⟨ah,rfl⟩⟩)|(go_at_call 75;refine(ak _).mono ?_;rintro e w'⟨rfl,Z⟩)|(go_at_call 76;refine(hm _).mono ?_;rintro e w'⟨rfl,⟨aj,rfl⟩⟩));go_step3;go_wp2_with(first|(go_at_call 73;refine(hd _).mono ?_;rintro e w'⟨rfl,⟨L,rfl⟩⟩)|(go_at_call 75;refine(U _).mono ?_;rintro e w'⟨rfl,D⟩)|(go_at_call 77;refine(hi _).mono ?_;rintro e w'⟨rfl,⟨G,rfl⟩⟩));go_step3;go_wp2_with(first|(go_at_call 73;refine(hd _).mono ?_;rintro e w'⟨rfl,⟨L,rfl⟩⟩)|(go_at_call 75;refine(U _).mono ?_;rintro e w'⟨rfl,D⟩)|(go_at_call 77;refine(hi _).mono ?_;rintro e w'⟨rfl,⟨G,rfl⟩⟩));go_step3;show J _ w 0 _ _;refine⟨(by repeat(first|exact Below.refl _ _|with_reducible assumption|refine sN ?_ _|refine sM ?_ (by with_reducible assumption))),Or.inl ⟨rfl,HE.out,?_⟩⟩;exact⟨_,_,_,⟨_,_,_,_,_,_,_,_,_,_,_,_,_,_,_,_,_,_,_,_,_,_,_,_,_,_,_,_,_,_,_,_,_,_,_,_,_,_,_,_,_,_,_,_,_,_,_,_,_,_,_,_,_,_,_,_,_,_,_,_,_,_,_,_,_,_,_,_,_,_,_,rfl⟩⟩
                  · have hd:=fun w=>E8 84 r1 an w
                    (have hE:kH l=(0,2):=by rw[←HG.out];exact Fy r1 t an);have HF:=Lib.hid hE;clear hE an;go_wp2_with(first|(go_at_call 73;refine(hc _).mono ?_;rintro e w'⟨rfl,⟨ag,rfl⟩⟩)|(go_at_call 74;refine(hh _).mono ?_;rintro e w'⟨rfl,⟨ah,rfl⟩⟩)|(go_at_call 75;refine(ak _).mono ?_;rintro e w'⟨rfl,Z⟩)|(go_at_call 76;refine(hm _).mono ?_;rintro e w'⟨rfl,⟨aj,rfl⟩⟩));go_step3;go_wp2_with(first|(go_at_call 73;refine(hd _).mono ?_;rintro e w'⟨rfl,⟨L,rfl⟩⟩));go_step3;show J _ w 0 _ _;refine⟨(by repeat(first|exact Below.refl _ _|with_reducible assumption|refine sN ?_ _|refine sM ?_ (by with_reducible assumption))),Or.inl ⟨rfl,HF.out,?_⟩⟩;exact⟨_,_,_,⟨_,_,_,_,_,_,_,_,_,_,_,_,_,_,_,_,_,_,_,_,_,_,_,_,_,_,_,_,_,_,_,_,_,_,_,_,_,_,_,_,_,_,_,_,_,_,_,_,_,_,_,_,_,_,_,_,_,_,_,_,_,_,_,_,_,_,_,_,_,_,_,rfl⟩⟩
              · have hE:kH l=(0,2):=by
                  rw[HP.out];unfold wP;rw[HN.out];dsimp only;rw[if_neg (by omega),if_neg ax,if_neg ay]
                have HE:=Lib.hid hE
                clear hE
                have bP:=JD u 89 aA
                have bQ:=JD u 77 aW
                have bN:=JD u 87 ax
                have bO:=JD u 68 ay
                clear aA aW ax ay
                go_wp2_with(first|(go_at_call 73;refine(hc _).mono ?_;rintro e w'⟨rfl,⟨ag,rfl⟩⟩)|(go_at_call 74;refine(hh _).mono ?_;rintro e w'⟨rfl,⟨ah,rfl⟩⟩)|(go_at_call 75;refine(ak _).mono ?_;rintro e w'⟨rfl,Z⟩))
                go_step3
                show J _ w 0 _ _
                refine⟨(by repeat(first|exact Below.refl _ _|with_reducible assumption|refine sN ?_ _|refine sM ?_ (by with_reducible assumption))),Or.inl ⟨rfl,HE.out,?_⟩⟩
                exact⟨_,_,_,⟨_,_,_,_,_,_,_,_,_,_,_,_,_,_,_,_,_,_,_,_,_,_,_,_,_,_,_,_,_,_,_,_,_,_,_,_,_,_,_,_,_,_,_,_,_,_,_,_,_,_,_,_,_,_,_,_,_,_,_,_,_,_,_,_,_,_,_,_,_,_,_,rfl⟩⟩
    · have hc:=fun w=>E8 80 l aw w
      have HP:=Lib.hid (I4 l aw);clear aw;go_wp2_with(first|(go_at_call 73;refine(hc _).mono ?_;rintro e w'⟨rfl,⟨ag,rfl⟩⟩));go_step3;show J _ w 0 _ _;refine⟨(by repeat(first|exact Below.refl _ _|with_reducible assumption|refine sN ?_ _|refine sM ?_ (by with_reducible assumption))),Or.inl ⟨rfl,HP.out,?_⟩⟩;exact⟨_,_,_,⟨_,_,_,_,_,_,_,_,_,_,_,_,_,_,_,_,_,_,_,_,_,_,_,_,_,_,_,_,_,_,_,_,_,_,_,_,_,_,_,_,_,_,_,_,_,_,_,_,_,_,_,_,_,_,_,_,_,_,_,_,_,_,_,_,_,_,_,_,_,_,_,rfl⟩⟩
  case p0=>
    rintro a w1⟨hB,⟨_,hp,x,y,_,hF⟩|⟨h,_⟩|⟨h,_⟩|⟨h,_⟩⟩
    · obtain⟨u0,u1,u2,u3,u5,u6,u7,a7,aK,aV,a3,be,bD,bE,aR,br,aT,a2,aE,aX,aG,aY,ba,bm,bj,aP,a4,bc,aH,aZ,bf,a9,a5,bC,bo,bw,a0,aB,aD,bs,bu,bh,bv,aI,bq,bb,bF,bl,a8,aO,bG,bA,aM,bk,bi,a6,aJ,aF,bd,aL,aS,aQ,aN,bx,bp,aC,bn,bz,aU,bB,a1,rfl⟩:=hF
      have HP:=Lib.hid hp;clear hp;go_wp2;simp only[jumps];go_ret2;exact⟨by rw[HP.out];rfl,(by repeat(first|exact Below.refl _ _|with_reducible assumption|refine sN ?_ _|refine sM ?_ (by with_reducible assumption)))⟩
    · cases h
    · cases h
    · cases h
  case p2=>
    rintro a w1⟨hB,⟨h,_⟩|⟨h,_⟩|⟨_,r,t,y,hp,hr,ht,hF⟩|⟨h,_⟩⟩
    · cases h
    · cases h
    · obtain⟨u0,u1,u2,u3,u5,u6,u7,a7,aK,aV,a3,be,bD,bE,aR,br,aT,a2,aE,aX,aG,aY,ba,bm,bj,aP,a4,bc,aH,aZ,bf,a9,a5,bC,bo,bw,a0,aB,aD,bs,bu,bh,bv,aI,bq,bb,bF,bl,a8,aO,bG,bA,aM,bk,bi,a6,aJ,aF,bd,aL,aS,aQ,aN,bx,bp,aC,bn,bz,aU,bB,a1,rfl⟩:=hF
      have HP:=Lib.hid hp;have ai:=Lib.hid ht;clear hp ht;by_cases hz:r=[]
      · subst hz
        have aa:=tJ;have hE:kH l=vI t:=HP.out.symm.trans (if_pos rfl);by_cases ae:1125899906842624<t
        · have HF:=Lib.hid (hE.trans (uN _ ae))
          clear hE;go_wp2;simp only[jumps];go_ret2;exact⟨by rw[HF.out];rfl,(by repeat(first|exact Below.refl _ _|with_reducible assumption|refine sN ?_ _|refine sM ?_ (by with_reducible assumption)))⟩
        · have ab:t≤1125899906842624:=by omega
          clear ae;have HF:=Lib.hid (hE.trans (wV _ ab));clear hE;go_wp2;simp only[jumps];go_ret2;exact⟨by rw[HF.out];rfl,(by repeat(first|exact Below.refl _ _|with_reducible assumption|refine sN ?_ _|refine sM ?_ (by with_reducible assumption)))⟩
      · have aa:=uz r hz
        have HF:=Lib.hid (HP.out.symm.trans (if_neg hz));clear hz;go_wp2;go_step3;go_wp2;simp only[jumps];go_ret2;exact⟨by rw[HF.out];rfl,(by repeat(first|exact Below.refl _ _|with_reducible assumption|refine sN ?_ _|refine sM ?_ (by with_reducible assumption)))⟩
    · cases h
  case p1=>
    rintro a w1⟨hB,⟨h,_⟩|⟨_,r,t,hp,hr,ht,hF⟩|⟨h,_⟩|⟨h,_⟩⟩
    · cases h
    · obtain⟨u0,u1,u2,u3,u5,u6,u7,a7,aK,aV,a3,be,bD,bE,aR,br,aT,a2,aE,aX,aG,aY,ba,bm,bj,aP,a4,bc,aH,aZ,bf,a9,a5,bC,bo,bw,a0,aB,aD,bs,bu,bh,bv,aI,bq,bb,bF,bl,a8,aO,bG,bA,aM,bk,bi,a6,aJ,aF,bd,aL,aS,aQ,aN,bx,bp,aC,bn,bz,aU,bB,a1,rfl⟩:=hF
      have HP:=Lib.hid hp;have ai:=Lib.hid ht;clear hp ht;by_cases an:r.head?=some 84
      · obtain⟨r2,e2⟩:=Cj an
        have hd:=fun w=>e2▸CB 84 r2 w;(have av:r2.length≤140737488351232:=by rw[e2,List.length_cons]at hr;omega);(have hG:sJ (3+1) r2 t (-1)=kH l:=by rw[←HP.out,e2];rfl);have HQ:=Lib.hid hG;(have bL:r2.length≤l.length:=by rw[e2,List.length_cons]at hr;omega);clear hG e2 an;obtain⟨n2,u2,r3,au,az,aq,bH,U⟩:=xu r2 av;have HM:=Lib.hid au;clear au;by_cases ap:u2=72
        · subst ap
          have hi:=fun w=>tZ 72 0 rfl (by omega) w;have ar:=Kk;have hk:=fun w=>sI t n2 3600 ai.out (by omega) (by omega) w;(have Y:(-1:Int)<place (qP r2).2.1:=by rw[HM.out];show(-1:Int)<(0:Int);omega);have af:=Lib.hid Y;clear Y;by_cases hz:r3=[]
          · subst hz
            have hE:kH l=vI (qR t n2 3600):=by
              rw[←HQ.out];exact(uY _ _ _ _ af.out (by rw[HM.out])).trans (by rw[HM.out];rfl)
            have HE:=Lib.hid hE;clear hE;have aa:=tJ;have X:=Lib.hid (rJ t n2 3600);generalize qR t n2 3600=t2 at*;by_cases ae:1125899906842624<t2
            · have HF:=Lib.hid (HE.out.trans (uN _ ae))
              go_wp2_with(first|(go_at_call 73;refine(hd _).mono ?_;rintro e w'⟨rfl,⟨L,rfl⟩⟩)|(go_at_call 75;refine(U _).mono ?_;rintro e w'⟨rfl,D⟩)|(go_at_call 77;refine(hi _).mono ?_;rintro e w'⟨rfl,⟨G,rfl⟩⟩)|(go_at_call 76;refine(hk _).mono ?_;rintro e w'⟨rfl,⟨I,rfl⟩⟩));go_step3;go_wp2_with(first|(go_at_call 73;refine(hd _).mono ?_;rintro e w'⟨rfl,⟨L,rfl⟩⟩)|(go_at_call 75;refine(U _).mono ?_;rintro e w'⟨rfl,D⟩)|(go_at_call 77;refine(hi _).mono ?_;rintro e w'⟨rfl,⟨G,rfl⟩⟩)|(go_at_call 76;refine(hk _).mono ?_;rintro e w'⟨rfl,⟨I,rfl⟩⟩));go_step3;go_wp2_with fail;simp only[jumps];go_ret2;exact⟨by rw[HF.out];rfl,(by repeat(first|exact Below.refl _ _|with_reducible assumption|refine sN ?_ _|refine sM ?_ (by with_reducible assumption)))⟩
            · have ab:t2≤1125899906842624:=by omega
              clear ae;have HF:=Lib.hid (HE.out.trans (wV _ ab));go_wp2_with(first|(go_at_call 73;refine(hd _).mono ?_;rintro e w'⟨rfl,⟨L,rfl⟩⟩)|(go_at_call 75;refine(U _).mono ?_;rintro e w'⟨rfl,D⟩)|(go_at_call 77;refine(hi _).mono ?_;rintro e w'⟨rfl,⟨G,rfl⟩⟩)|(go_at_call 76;refine(hk _).mono ?_;rintro e w'⟨rfl,⟨I,rfl⟩⟩));go_step3;go_wp2_with(first|(go_at_call 73;refine(hd _).mono ?_;rintro e w'⟨rfl,⟨L,rfl⟩⟩)|(go_at_call 75;refine(U _).mono ?_;rintro e w'⟨rfl,D⟩)|(go_at_call 77;refine(hi _).mono ?_;rintro e w'⟨rfl,⟨G,rfl⟩⟩)|(go_at_call 76;refine(hk _).mono ?_;rintro e w'⟨rfl,⟨I,rfl⟩⟩));go_step3;go_wp2_with fail;simp only[jumps];go_ret2;exact⟨by rw[HF.out];rfl,(by repeat(first|exact Below.refl _ _|with_reducible assumption|refine sN ?_ _|refine sM ?_ (by with_reducible assumption)))⟩
          · have aa:=uz r3 hz
            have hE:sJ 3 r3 (qR t n2 3600) 0=kH l:=by
              rw[←HQ.out];exact((uH _ _ _ _ af.out (by rw[HM.out];exact hz)).trans (by rw[HM.out];rfl)).symm
            have HE:=Lib.hid hE;clear hE hz;have X:=Lib.hid (rJ t n2 3600);generalize qR t n2 3600=t2 at*;go_wp2_with(first|(go_at_call 73;refine(hd _).mono ?_;rintro e w'⟨rfl,⟨L,rfl⟩⟩)|(go_at_call 75;refine(U _).mono ?_;rintro e w'⟨rfl,D⟩)|(go_at_call 77;refine(hi _).mono ?_;rintro e w'⟨rfl,⟨G,rfl⟩⟩)|(go_at_call 76;refine(hk _).mono ?_;rintro e w'⟨rfl,⟨I,rfl⟩⟩));go_step3;go_wp2_with(first|(go_at_call 73;refine(hd _).mono ?_;rintro e w'⟨rfl,⟨L,rfl⟩⟩)|(go_at_call 75;refine(U _).mono ?_;rintro e w'⟨rfl,D⟩)|(go_at_call 77;refine(hi _).mono ?_;rintro e w'⟨rfl,⟨G,rfl⟩⟩)|(go_at_call 76;refine(hk _).mono ?_;rintro e w'⟨rfl,⟨I,rfl⟩⟩));go_step3;show J _ w 3 _ _∧_;refine⟨⟨(by repeat(first|exact Below.refl _ _|with_reducible assumption|refine sN ?_ _|refine sM ?_ (by with_reducible assumption))),Or.inr (Or.inr (Or.inr ⟨rfl,r3,t2,2,0,HE.out,by omega,by omega,by omega,by omega,X.out,?_⟩))⟩,(by show(10-(0:Int)).toNat<20;omega)⟩;exact⟨_,_,_,_,_,_,_,_,_,_,_,_,_,_,_,_,_,_,_,_,_,_,_,_,_,_,_,_,_,_,_,_,_,_,_,_,_,_,_,_,_,_,_,_,_,_,_,_,_,_,_,_,_,_,_,_,_,_,_,_,_,_,_,_,_,_,_,_,_,_,_,rfl⟩
        · skip
          by_cases am:u2=77
          · subst am
            have hi:=fun w=>tZ 77 1 rfl (by omega) w;have ar:=Ky;have hk:=fun w=>sI t n2 60 ai.out (by omega) (by omega) w;(have Y:(-1:Int)<place (qP r2).2.1:=by rw[HM.out];show(-1:Int)<(1:Int);omega);have af:=Lib.hid Y;clear Y;by_cases hz:r3=[]
            · subst hz
              have hE:kH l=vI (qR t n2 60):=by
                rw[←HQ.out];exact(uY _ _ _ _ af.out (by rw[HM.out])).trans (by rw[HM.out];rfl)
              have HE:=Lib.hid hE;clear hE;have aa:=tJ;have X:=Lib.hid (rJ t n2 60);generalize qR t n2 60=t2 at*;by_cases ae:1125899906842624<t2
              · have HF:=Lib.hid (HE.out.trans (uN _ ae))
                go_wp2_with(first|(go_at_call 73;refine(hd _).mono ?_;rintro e w'⟨rfl,⟨L,rfl⟩⟩)|(go_at_call 75;refine(U _).mono ?_;rintro e w'⟨rfl,D⟩)|(go_at_call 77;refine(hi _).mono ?_;rintro e w'⟨rfl,⟨G,rfl⟩⟩)|(go_at_call 76;refine(hk _).mono ?_;rintro e w'⟨rfl,⟨I,rfl⟩⟩));go_step3;go_wp2_with(first|(go_at_call 73;refine(hd _).mono ?_;rintro e w'⟨rfl,⟨L,rfl⟩⟩)|(go_at_call 75;refine(U _).mono ?_;rintro e w'⟨rfl,D⟩)|(go_at_call 77;refine(hi _).mono ?_;rintro e w'⟨rfl,⟨G,rfl⟩⟩)|(go_at_call 76;refine(hk _).mono ?_;rintro e w'⟨rfl,⟨I,rfl⟩⟩));go_step3;go_wp2_with fail;simp only[jumps];go_ret2;exact⟨by rw[HF.out];rfl,(by repeat(first|exact Below.refl _ _|with_reducible assumption|refine sN ?_ _|refine sM ?_ (by with_reducible assumption)))⟩
              · have ab:t2≤1125899906842624:=by omega
                clear ae;have HF:=Lib.hid (HE.out.trans (wV _ ab));go_wp2_with(first|(go_at_call 73;refine(hd _).mono ?_;rintro e w'⟨rfl,⟨L,rfl⟩⟩)|(go_at_call 75;refine(U _).mono ?_;rintro e w'⟨rfl,D⟩)|(go_at_call 77;refine(hi _).mono ?_;rintro e w'⟨rfl,⟨G,rfl⟩⟩)|(go_at_call 76;refine(hk _).mono ?_;rintro e w'⟨rfl,⟨I,rfl⟩⟩));go_step3;go_wp2_with(first|(go_at_call 73;refine(hd _).mono ?_;rintro e w'⟨rfl,⟨L,rfl⟩⟩)|(go_at_call 75;refine(U _).mono ?_;rintro e w'⟨rfl,D⟩)|(go_at_call 77;refine(hi _).mono ?_;rintro e w'⟨rfl,⟨G,rfl⟩⟩)|(go_at_call 76;refine(hk _).mono ?_;rintro e w'⟨rfl,⟨I,rfl⟩⟩));go_step3;go_wp2_with fail;simp only[jumps];go_ret2;exact⟨by rw[HF.out];rfl,(by repeat(first|exact Below.refl _ _|with_reducible assumption|refine sN ?_ _|refine sM ?_ (by with_reducible assumption)))⟩
            · have aa:=uz r3 hz
              have hE:sJ 3 r3 (qR t n2 60) 1=kH l:=by
                rw[←HQ.out];exact((uH _ _ _ _ af.out (by rw[HM.out];exact hz)).trans (by rw[HM.out];rfl)).symm
              have HE:=Lib.hid hE;clear hE hz;have X:=Lib.hid (rJ t n2 60);generalize qR t n2 60=t2 at*;go_wp2_with(first|(go_at_call 73;refine(hd _).mono ?_;rintro e w'⟨rfl,⟨L,rfl⟩⟩)|(go_at_call 75;refine(U _).mono ?_;rintro e w'⟨rfl,D⟩)|(go_at_call 77;refine(hi _).mono ?_;rintro e w'⟨rfl,⟨G,rfl⟩⟩)|(go_at_call 76;refine(hk _).mono ?_;rintro e w'⟨rfl,⟨I,rfl⟩⟩));go_step3;go_wp2_with(first|(go_at_call 73;refine(hd _).mono ?_;rintro e w'⟨rfl,⟨L,rfl⟩⟩)|(go_at_call 75;refine(U _).mono ?_;rintro e w'⟨rfl,D⟩)|(go_at_call 77;refine(hi _).mono ?_;rintro e w'⟨rfl,⟨G,rfl⟩⟩)|(go_at_call 76;refine(hk _).mono ?_;rintro e w'⟨rfl,⟨I,rfl⟩⟩));go_step3;show J _ w 3 _ _∧_;refine⟨⟨(by repeat(first|exact Below.refl _ _|with_reducible assumption|refine sN ?_ _|refine sM ?_ (by with_reducible assumption))),Or.inr (Or.inr (Or.inr ⟨rfl,r3,t2,2,1,HE.out,by omega,by omega,by omega,by omega,X.out,?_⟩))⟩,(by show(10-(1:Int)).toNat<20;omega)⟩;exact⟨_,_,_,_,_,_,_,_,_,_,_,_,_,_,_,_,_,_,_,_,_,_,_,_,_,_,_,_,_,_,_,_,_,_,_,_,_,_,_,_,_,_,_,_,_,_,_,_,_,_,_,_,_,_,_,_,_,_,_,_,_,_,_,_,_,_,_,_,_,_,_,rfl⟩
          · skip
            by_cases al:u2=83
            · subst al
              have hi:=fun w=>tZ 83 2 rfl (by omega) w;have ar:=KL;have hk:=fun w=>sI t n2 1 ai.out (by omega) (by omega) w;(have Y:(-1:Int)<place (qP r2).2.1:=by rw[HM.out];show(-1:Int)<(2:Int);omega);have af:=Lib.hid Y;clear Y;by_cases hz:r3=[]
              · subst hz
                have hE:kH l=vI (qR t n2 1):=by
                  rw[←HQ.out];exact(uY _ _ _ _ af.out (by rw[HM.out])).trans (by rw[HM.out];rfl)
                have HE:=Lib.hid hE;clear hE;have aa:=tJ;have X:=Lib.hid (rJ t n2 1);generalize qR t n2 1=t2 at*;by_cases ae:1125899906842624<t2
                · have HF:=Lib.hid (HE.out.trans (uN _ ae))
                  go_wp2_with(first|(go_at_call 73;refine(hd _).mono ?_;rintro e w'⟨rfl,⟨L,rfl⟩⟩)|(go_at_call 75;refine(U _).mono ?_;rintro e w'⟨rfl,D⟩)|(go_at_call 77;refine(hi _).mono ?_;rintro e w'⟨rfl,⟨G,rfl⟩⟩)|(go_at_call 76;refine(hk _).mono ?_;rintro e w'⟨rfl,⟨I,rfl⟩⟩));go_step3;go_wp2_with(first|(go_at_call 73;refine(hd _).mono ?_;rintro e w'⟨rfl,⟨L,rfl⟩⟩)|(go_at_call 75;refine(U _).mono ?_;rintro e w'⟨rfl,D⟩)|(go_at_call 77;refine(hi _).mono ?_;rintro e w'⟨rfl,⟨G,rfl⟩⟩)|(go_at_call 76;refine(hk _).mono ?_;rintro e w'⟨rfl,⟨I,rfl⟩⟩));go_step3;go_wp2_with fail;simp only[jumps];go_ret2;exact⟨by rw[HF.out];rfl,(by repeat(first|exact Below.refl _ _|with_reducible assumption|refine sN ?_ _|refine sM ?_ (by with_reducible assumption)))⟩
                · have ab:t2≤1125899906842624:=by omega
                  clear ae;have HF:=Lib.hid (HE.out.trans (wV _ ab));go_wp2_with(first|(go_at_call 73;refine(hd _).mono ?_;rintro e w'⟨rfl,⟨L,rfl⟩⟩)|(go_at_call 75;refine(U _).mono ?_;rintro e w'⟨rfl,D⟩)|(go_at_call 77;refine(hi _).mono ?_;rintro e w'⟨rfl,⟨G,rfl⟩⟩)|(go_at_call 76;refine(hk _).mono ?_;rintro e w'⟨rfl,⟨I,rfl⟩⟩));go_step3;go_wp2_with(first|(go_at_call 73;refine(hd _).mono ?_;rintro e w'⟨rfl,⟨L,rfl⟩⟩)|(go_at_call 75;refine(U _).mono ?_;rintro e w'⟨rfl,D⟩)|(go_at_call 77;refine(hi _).mono ?_;rintro e w'⟨rfl,⟨G,rfl⟩⟩)|(go_at_call 76;refine(hk _).mono ?_;rintro e w'⟨rfl,⟨I,rfl⟩⟩));go_step3;go_wp2_with fail;simp only[jumps];go_ret2;exact⟨by rw[HF.out];rfl,(by repeat(first|exact Below.refl _ _|with_reducible assumption|refine sN ?_ _|refine sM ?_ (by with_reducible assumption)))⟩
              · have aa:=uz r3 hz
                have hE:sJ 3 r3 (qR t n2 1) 2=kH l:=by
                  rw[←HQ.out];exact((uH _ _ _ _ af.out (by rw[HM.out];exact hz)).trans (by rw[HM.out];rfl)).symm
                have HE:=Lib.hid hE;clear hE hz;have X:=Lib.hid (rJ t n2 1);generalize qR t n2 1=t2 at*;go_wp2_with(first|(go_at_call 73;refine(hd _).mono ?_;rintro e w'⟨rfl,⟨L,rfl⟩⟩)|(go_at_call 75;refine(U _).mono ?_;rintro e w'⟨rfl,D⟩)|(go_at_call 77;refine(hi _).mono ?_;rintro e w'⟨rfl,⟨G,rfl⟩⟩)|(go_at_call 76;refine(hk _).mono ?_;rintro e w'⟨rfl,⟨I,rfl⟩⟩));go_step3;go_wp2_with(first|(go_at_call 73;refine(hd _).mono ?_;rintro e w'⟨rfl,⟨L,rfl⟩⟩)|(go_at_call 75;refine(U _).mono ?_;rintro e w'⟨rfl,D⟩)|(go_at_call 77;refine(hi _).mono ?_;rintro e w'⟨rfl,⟨G,rfl⟩⟩)|(go_at_call 76;refine(hk _).mono ?_;rintro e w'⟨rfl,⟨I,rfl⟩⟩));go_step3;show J _ w 3 _ _∧_;refine⟨⟨(by repeat(first|exact Below.refl _ _|with_reducible assumption|refine sN ?_ _|refine sM ?_ (by with_reducible assumption))),Or.inr (Or.inr (Or.inr ⟨rfl,r3,t2,2,2,HE.out,by omega,by omega,by omega,by omega,X.out,?_⟩))⟩,(by show(10-(2:Int)).toNat<20;omega)⟩;exact⟨_,_,_,_,_,_,_,_,_,_,_,_,_,_,_,_,_,_,_,_,_,_,_,_,_,_,_,_,_,_,_,_,_,_,_,_,_,_,_,_,_,_,_,_,_,_,_,_,_,_,_,_,_,_,_,_,_,_,_,_,_,_,_,_,_,_,_,_,_,_,_,rfl⟩
            · skip
              (have ao:place u2= -1:=by unfold place;rw[if_neg ap,if_neg am,if_neg al]);have hi:=fun w=>tZ u2 (-1) ao aq w;have hE:kH l=(0,2):=by
                rw[←HQ.out];exact yj _ _ _ _ (by rw[HM.out];show place u2≤ -1;rw[ao];omega)
              have HE:=Lib.hid hE;clear hE ao ap am al;go_wp2_with(first|(go_at_call 73;refine(hd _).mono ?_;rintro e w'⟨rfl,⟨L,rfl⟩⟩)|(go_at_call 75;refine(U _).mono ?_;rintro e w'⟨rfl,D⟩)|(go_at_call 77;refine(hi _).mono ?_;rintro e w'⟨rfl,⟨G,rfl⟩⟩));go_step3;go_wp2_with(first|(go_at_call 73;refine(hd _).mono ?_;rintro e w'⟨rfl,⟨L,rfl⟩⟩)|(go_at_call 75;refine(U _).mono ?_;rintro e w'⟨rfl,D⟩)|(go_at_call 77;refine(hi _).mono ?_;rintro e w'⟨rfl,⟨G,rfl⟩⟩));go_step3;show J _ w 0 _ _∧_;refine⟨⟨(by repeat(first|exact Below.refl _ _|with_reducible assumption|refine sN ?_ _|refine sM ?_ (by with_reducible assumption))),Or.inl ⟨rfl,HE.out,?_⟩⟩,(by show(1:Nat)<20;omega)⟩;exact⟨_,_,_,⟨_,_,_,_,_,_,_,_,_,_,_,_,_,_,_,_,_,_,_,_,_,_,_,_,_,_,_,_,_,_,_,_,_,_,_,_,_,_,_,_,_,_,_,_,_,_,_,_,_,_,_,_,_,_,_,_,_,_,_,_,_,_,_,_,_,_,_,_,_,_,_,rfl⟩⟩
      · have hd:=fun w=>E8 84 r an w
        (have hE:kH l=(0,2):=by rw[←HP.out];exact Fy r t an);have HF:=Lib.hid hE;clear hE an;go_wp2_with(first|(go_at_call 73;refine(hd _).mono ?_;rintro e w'⟨rfl,⟨L,rfl⟩⟩));go_step3;show J _ w 0 _ _∧_;refine⟨⟨(by repeat(first|exact Below.refl _ _|with_reducible assumption|refine sN ?_ _|refine sM ?_ (by with_reducible assumption))),Or.inl ⟨rfl,HF.out,?_⟩⟩,(by show(1:Nat)<20;omega)⟩;exact⟨_,_,_,⟨_,_,_,_,_,_,_,_,_,_,_,_,_,_,_,_,_,_,_,_,_,_,_,_,_,_,_,_,_,_,_,_,_,_,_,_,_,_,_,_,_,_,_,_,_,_,_,_,_,_,_,_,_,_,_,_,_,_,_,_,_,_,_,_,_,_,_,_,_,_,_,rfl⟩⟩
    · cases h
    · cases h
  case p3=>
    rintro a w1⟨hB,⟨h,_⟩|⟨h,_⟩|⟨h,_⟩|⟨_,r2,t,k,p,hp,_,_,_,hr,ht,hF⟩⟩
    · cases h
    · cases h
    · cases h
    · obtain⟨u0,u1,u2,u3,u5,u6,u7,a7,aK,aV,a3,be,bD,bE,aR,br,aT,a2,aE,aX,aG,aY,ba,bm,bj,aP,a4,bc,aH,aZ,bf,a9,a5,bC,bo,bw,a0,aB,aD,bs,bu,bh,bv,aI,bq,bb,bF,bl,a8,aO,bG,bA,aM,bk,bi,a6,aJ,aF,bd,aL,aS,aQ,aN,bx,bp,aC,bn,bz,aU,bB,a1,rfl⟩:=hF
      have HQ:=Lib.hid hp;have ai:=Lib.hid ht;(have av:r2.length≤140737488351232:=by omega);have bL:r2.length≤l.length:=hr;clear hp ht hr;obtain⟨n2,u2,r3,au,az,aq,bH,U⟩:=xu r2 av;have HM:=Lib.hid au;clear au;by_cases ap:u2=72
      · subst ap
        have hi:=fun w=>tZ 72 0 rfl (by omega) w;have ar:=Kk;have hk:=fun w=>sI t n2 3600 ai.out (by omega) (by omega) w;by_cases hp:(0:Int)≤p
        · have hE:kH l=(0,2):=by
            rw[←HQ.out];exact yj _ _ _ _ (by rw[HM.out];show(0:Int)≤p;exact hp)
          have HE:=Lib.hid hE
          clear hE
          go_wp2_with(first|(go_at_call 75;refine(U _).mono ?_;rintro e w'⟨rfl,D⟩)|(go_at_call 77;refine(hi _).mono ?_;rintro e w'⟨rfl,⟨G,rfl⟩⟩))
          go_step3
          show J _ w 0 _ _∧_
          refine⟨⟨(by repeat(first|exact Below.refl _ _|with_reducible assumption|refine sN ?_ _|refine sM ?_ (by with_reducible assumption))),Or.inl ⟨rfl,HE.out,?_⟩⟩,(by show(1:Nat)<(10-p).toNat;omega)⟩
          exact⟨_,_,_,⟨_,_,_,_,_,_,_,_,_,_,_,_,_,_,_,_,_,_,_,_,_,_,_,_,_,_,_,_,_,_,_,_,_,_,_,_,_,_,_,_,_,_,_,_,_,_,_,_,_,_,_,_,_,_,_,_,_,_,_,_,_,_,_,_,_,_,_,_,_,_,_,rfl⟩⟩
        · have bK:p<(0:Int):=by omega
          clear hp;(have Y:p<place (qP r2).2.1:=by rw[HM.out];show p<(0:Int);omega);have af:=Lib.hid Y;clear Y;by_cases hz:r3=[]
          · subst hz
            have hE:kH l=vI (qR t n2 3600):=by
              rw[←HQ.out];exact(uY _ _ _ _ af.out (by rw[HM.out])).trans (by rw[HM.out];rfl)
            have HE:=Lib.hid hE;clear hE;have aa:=tJ;have X:=Lib.hid (rJ t n2 3600);generalize qR t n2 3600=t2 at*;by_cases ae:1125899906842624<t2
            · have HF:=Lib.hid (HE.out.trans (uN _ ae))
              go_wp2_with(first|(go_at_call 75;refine(U _).mono ?_;rintro e w'⟨rfl,D⟩)|(go_at_call 77;refine(hi _).mono ?_;rintro e w'⟨rfl,⟨G,rfl⟩⟩)|(go_at_call 76;refine(hk _).mono ?_;rintro e w'⟨rfl,⟨I,rfl⟩⟩));go_step3;go_wp2_with fail;simp only[jumps];go_ret2;exact⟨by rw[HF.out];rfl,(by repeat(first|exact Below.refl _ _|with_reducible assumption|refine sN ?_ _|refine sM ?_ (by with_reducible assumption)))⟩
            · have ab:t2≤1125899906842624:=by omega
              clear ae;have HF:=Lib.hid (HE.out.trans (wV _ ab));go_wp2_with(first|(go_at_call 75;refine(U _).mono ?_;rintro e w'⟨rfl,D⟩)|(go_at_call 77;refine(hi _).mono ?_;rintro e w'⟨rfl,⟨G,rfl⟩⟩)|(go_at_call 76;refine(hk _).mono ?_;rintro e w'⟨rfl,⟨I,rfl⟩⟩));go_step3;go_wp2_with fail;simp only[jumps];go_ret2;exact⟨by rw[HF.out];rfl,(by repeat(first|exact Below.refl _ _|with_reducible assumption|refine sN ?_ _|refine sM ?_ (by with_reducible assumption)))⟩
          · have aa:=uz r3 hz
            have hE:sJ k r3 (qR t n2 3600) 0=kH l:=by
              rw[←HQ.out];exact((uH _ _ _ _ af.out (by rw[HM.out];exact hz)).trans (by rw[HM.out];rfl)).symm
            have HE:=Lib.hid hE;clear hE hz;have X:=Lib.hid (rJ t n2 3600);generalize qR t n2 3600=t2 at*;(obtain⟨k',rfl⟩:∃k',k=k'+1:=⟨k-1,by omega⟩);go_wp2_with(first|(go_at_call 75;refine(U _).mono ?_;rintro e w'⟨rfl,D⟩)|(go_at_call 77;refine(hi _).mono ?_;rintro e w'⟨rfl,⟨G,rfl⟩⟩)|(go_at_call 76;refine(hk _).mono ?_;rintro e w'⟨rfl,⟨I,rfl⟩⟩));go_step3;show J _ w 3 _ _∧_;refine⟨⟨(by repeat(first|exact Below.refl _ _|with_reducible assumption|refine sN ?_ _|refine sM ?_ (by with_reducible assumption))),Or.inr (Or.inr (Or.inr ⟨rfl,r3,t2,k',0,HE.out,by omega,by omega,by omega,by omega,X.out,?_⟩))⟩,(by show(10-(0:Int)).toNat<(10-p).toNat;omega)⟩;exact⟨_,_,_,_,_,_,_,_,_,_,_,_,_,_,_,_,_,_,_,_,_,_,_,_,_,_,_,_,_,_,_,_,_,_,_,_,_,_,_,_,_,_,_,_,_,_,_,_,_,_,_,_,_,_,_,_,_,_,_,_,_,_,_,_,_,_,_,_,_,_,_,rfl⟩
      · skip
        by_cases am:u2=77
        · subst am
          have hi:=fun w=>tZ 77 1 rfl (by omega) w;have ar:=Ky;have hk:=fun w=>sI t n2 60 ai.out (by omega) (by omega) w;by_cases hp:(1:Int)≤p
          · have hE:kH l=(0,2):=by
              rw[←HQ.out];exact yj _ _ _ _ (by rw[HM.out];show(1:Int)≤p;exact hp)
            have HE:=Lib.hid hE
            clear hE
            go_wp2_with(first|(go_at_call 75;refine(U _).mono ?_;rintro e w'⟨rfl,D⟩)|(go_at_call 77;refine(hi _).mono ?_;rintro e w'⟨rfl,⟨G,rfl⟩⟩))
            go_step3
            show J _ w 0 _ _∧_
            refine⟨⟨(by repeat(first|exact Below.refl _ _|with_reducible assumption|refine sN ?_ _|refine sM ?_ (by with_reducible assumption))),Or.inl ⟨rfl,HE.out,?_⟩⟩,(by show(1:Nat)<(10-p).toNat;omega)⟩
            exact⟨_,_,_,⟨_,_,_,_,_,_,_,_,_,_,_,_,_,_,_,_,_,_,_,_,_,_,_,_,_,_,_,_,_,_,_,_,_,_,_,_,_,_,_,_,_,_,_,_,_,_,_,_,_,_,_,_,_,_,_,_,_,_,_,_,_,_,_,_,_,_,_,_,_,_,_,rfl⟩⟩
          · have bK:p<(1:Int):=by omega
            clear hp;(have Y:p<place (qP r2).2.1:=by rw[HM.out];show p<(1:Int);omega);have af:=Lib.hid Y;clear Y;by_cases hz:r3=[]
            · subst hz
              have hE:kH l=vI (qR t n2 60):=by
                rw[←HQ.out];exact(uY _ _ _ _ af.out (by rw[HM.out])).trans (by rw[HM.out];rfl)
              have HE:=Lib.hid hE;clear hE;have aa:=tJ;have X:=Lib.hid (rJ t n2 60);generalize qR t n2 60=t2 at*;by_cases ae:1125899906842624<t2
              · have HF:=Lib.hid (HE.out.trans (uN _ ae))
                go_wp2_with(first|(go_at_call 75;refine(U _).mono ?_;rintro e w'⟨rfl,D⟩)|(go_at_call 77;refine(hi _).mono ?_;rintro e w'⟨rfl,⟨G,rfl⟩⟩)|(go_at_call 76;refine(hk _).mono ?_;rintro e w'⟨rfl,⟨I,rfl⟩⟩));go_step3;go_wp2_with fail;simp only[jumps];go_ret2;exact⟨by rw[HF.out];rfl,(by repeat(first|exact Below.refl _ _|with_reducible assumption|refine sN ?_ _|refine sM ?_ (by with_reducible assumption)))⟩
              · have ab:t2≤1125899906842624:=by omega
                clear ae;have HF:=Lib.hid (HE.out.trans (wV _ ab));go_wp2_with(first|(go_at_call 75;refine(U _).mono ?_;rintro e w'⟨rfl,D⟩)|(go_at_call 77;refine(hi _).mono ?_;rintro e w'⟨rfl,⟨G,rfl⟩⟩)|(go_at_call 76;refine(hk _).mono ?_;rintro e w'⟨rfl,⟨I,rfl⟩⟩));go_step3;go_wp2_with fail;simp only[jumps];go_ret2;exact⟨by rw[HF.out];rfl,(by repeat(first|exact Below.refl _ _|with_reducible assumption|refine sN ?_ _|refine sM ?_ (by with_reducible assumption)))⟩
            · have aa:=uz r3 hz
              have hE:sJ k r3 (qR t n2 60) 1=kH l:=by
                rw[←HQ.out];exact((uH _ _ _ _ af.out (by rw[HM.out];exact hz)).trans (by rw[HM.out];rfl)).symm
              have HE:=Lib.hid hE;clear hE hz;have X:=Lib.hid (rJ t n2 60);generalize qR t n2 60=t2 at*;(obtain⟨k',rfl⟩:∃k',k=k'+1:=⟨k-1,by omega⟩);go_wp2_with(first|(go_at_call 75;refine(U _).mono ?_;rintro e w'⟨rfl,D⟩)|(go_at_call 77;refine(hi _).mono ?_;rintro e w'⟨rfl,⟨G,rfl⟩⟩)|(go_at_call 76;refine(hk _).mono ?_;rintro e w'⟨rfl,⟨I,rfl⟩⟩));go_step3;show J _ w 3 _ _∧_;refine⟨⟨(by repeat(first|exact Below.refl _ _|with_reducible assumption|refine sN ?_ _|refine sM ?_ (by with_reducible assumption))),Or.inr (Or.inr (Or.inr ⟨rfl,r3,t2,k',1,HE.out,by omega,by omega,by omega,by omega,X.out,?_⟩))⟩,(by show(10-(1:Int)).toNat<(10-p).toNat;omega)⟩;exact⟨_,_,_,_,_,_,_,_,_,_,_,_,_,_,_,_,_,_,_,_,_,_,_,_,_,_,_,_,_,_,_,_,_,_,_,_,_,_,_,_,_,_,_,_,_,_,_,_,_,_,_,_,_,_,_,_,_,_,_,_,_,_,_,_,_,_,_,_,_,_,_,rfl⟩
        · skip
          by_cases al:u2=83
          · subst al
            have hi:=fun w=>tZ 83 2 rfl (by omega) w;have ar:=KL;have hk:=fun w=>sI t n2 1 ai.out (by omega) (by omega) w;by_cases hp:(2:Int)≤p
            · have hE:kH l=(0,2):=by
                rw[←HQ.out];exact yj _ _ _ _ (by rw[HM.out];show(2:Int)≤p;exact hp)
              have HE:=Lib.hid hE
              clear hE
              go_wp2_with(first|(go_at_call 75;refine(U _).mono ?_;rintro e w'⟨rfl,D⟩)|(go_at_call 77;refine(hi _).mono ?_;rintro e w'⟨rfl,⟨G,rfl⟩⟩))
              go_step3
              show J _ w 0 _ _∧_
              refine⟨⟨(by repeat(first|exact Below.refl _ _|with_reducible assumption|refine sN ?_ _|refine sM ?_ (by with_reducible assumption))),Or.inl ⟨rfl,HE.out,?_⟩⟩,(by show(1:Nat)<(10-p).toNat;omega)⟩
              exact⟨_,_,_,⟨_,_,_,_,_,_,_,_,_,_,_,_,_,_,_,_,_,_,_,_,_,_,_,_,_,_,_,_,_,_,_,_,_,_,_,_,_,_,_,_,_,_,_,_,_,_,_,_,_,_,_,_,_,_,_,_,_,_,_,_,_,_,_,_,_,_,_,_,_,_,_,rfl⟩⟩
            · have bK:p<(2:Int):=by omega
              clear hp;(have Y:p<place (qP r2).2.1:=by rw[HM.out];show p<(2:Int);omega);have af:=Lib.hid Y;clear Y;by_cases hz:r3=[]
              · subst hz
                have hE:kH l=vI (qR t n2 1):=by
                  rw[←HQ.out];exact(uY _ _ _ _ af.out (by rw[HM.out])).trans (by rw[HM.out];rfl)
                have HE:=Lib.hid hE;clear hE;have aa:=tJ;have X:=Lib.hid (rJ t n2 1);generalize qR t n2 1=t2 at*;by_cases ae:1125899906842624<t2
                · have HF:=Lib.hid (HE.out.trans (uN _ ae))
                  go_wp2_with(first|(go_at_call 75;refine(U _).mono ?_;rintro e w'⟨rfl,D⟩)|(go_at_call 77;refine(hi _).mono ?_;rintro e w'⟨rfl,⟨G,rfl⟩⟩)|(go_at_call 76;refine(hk _).mono ?_;rintro e w'⟨rfl,⟨I,rfl⟩⟩));go_step3;go_wp2_with fail;simp only[jumps];go_ret2;exact⟨by rw[HF.out];rfl,(by repeat(first|exact Below.refl _ _|with_reducible assumption|refine sN ?_ _|refine sM ?_ (by with_reducible assumption)))⟩
                · have ab:t2≤1125899906842624:=by omega
                  clear ae;have HF:=Lib.hid (HE.out.trans (wV _ ab));go_wp2_with(first|(go_at_call 75;refine(U _).mono ?_;rintro e w'⟨rfl,D⟩)|(go_at_call 77;refine(hi _).mono ?_;rintro e w'⟨rfl,⟨G,rfl⟩⟩)|(go_at_call 76;refine(hk _).mono ?_;rintro e w'⟨rfl,⟨I,rfl⟩⟩));go_step3;go_wp2_with fail;simp only[jumps];go_ret2;exact⟨by rw[HF.out];rfl,(by repeat(first|exact Below.refl _ _|with_reducible assumption|refine sN ?_ _|refine sM ?_ (by with_reducible assumption)))⟩
              · have aa:=uz r3 hz
                have hE:sJ k r3 (qR t n2 1) 2=kH l:=by
                  rw[←HQ.out];exact((uH _ _ _ _ af.out (by rw[HM.out];exact hz)).trans (by rw[HM.out];rfl)).symm
                have HE:=Lib.hid hE;clear hE hz;have X:=Lib.hid (rJ t n2 1);generalize qR t n2 1=t2 at*;(obtain⟨k',rfl⟩:∃k',k=k'+1:=⟨k-1,by omega⟩);go_wp2_with(first|(go_at_call 75;refine(U _).mono ?_;rintro e w'⟨rfl,D⟩)|(go_at_call 77;refine(hi _).mono ?_;rintro e w'⟨rfl,⟨G,rfl⟩⟩)|(go_at_call 76;refine(hk _).mono ?_;rintro e w'⟨rfl,⟨I,rfl⟩⟩));go_step3;show J _ w 3 _ _∧_;refine⟨⟨(by repeat(first|exact Below.refl _ _|with_reducible assumption|refine sN ?_ _|refine sM ?_ (by with_reducible assumption))),Or.inr (Or.inr (Or.inr ⟨rfl,r3,t2,k',2,HE.out,by omega,by omega,by omega,by omega,X.out,?_⟩))⟩,(by show(10-(2:Int)).toNat<(10-p).toNat;omega)⟩;exact⟨_,_,_,_,_,_,_,_,_,_,_,_,_,_,_,_,_,_,_,_,_,_,_,_,_,_,_,_,_,_,_,_,_,_,_,_,_,_,_,_,_,_,_,_,_,_,_,_,_,_,_,_,_,_,_,_,_,_,_,_,_,_,_,_,_,_,_,_,_,_,_,rfl⟩
          · skip
            (have ao:place u2= -1:=by unfold place;rw[if_neg ap,if_neg am,if_neg al]);have hi:=fun w=>tZ u2 (-1) ao aq w;have hE:kH l=(0,2):=by
              rw[←HQ.out];exact yj _ _ _ _ (by rw[HM.out];show place u2≤p;rw[ao];omega)
            have HE:=Lib.hid hE;clear hE ao ap am al;go_wp2_with(first|(go_at_call 75;refine(U _).mono ?_;rintro e w'⟨rfl,D⟩)|(go_at_call 77;refine(hi _).mono ?_;rintro e w'⟨rfl,⟨G,rfl⟩⟩));go_step3;show J _ w 0 _ _∧_;refine⟨⟨(by repeat(first|exact Below.refl _ _|with_reducible assumption|refine sN ?_ _|refine sM ?_ (by with_reducible assumption))),Or.inl ⟨rfl,HE.out,?_⟩⟩,(by show(1:Nat)<(10-p).toNat;omega)⟩;exact⟨_,_,_,⟨_,_,_,_,_,_,_,_,_,_,_,_,_,_,_,_,_,_,_,_,_,_,_,_,_,_,_,_,_,_,_,_,_,_,_,_,_,_,_,_,_,_,_,_,_,_,_,_,_,_,_,_,_,_,_,_,_,_,_,_,_,_,_,_,_,_,_,_,_,_,_,rfl⟩⟩
end Go.Proofs.Span
