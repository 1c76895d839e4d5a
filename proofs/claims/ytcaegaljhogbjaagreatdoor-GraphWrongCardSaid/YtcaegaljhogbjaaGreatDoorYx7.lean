/- What Go functions compute, as plain Lean functions, and. -/
import Derived.Test.YtcaegaljhogbjaaGreatDoorYx0
set_option linter.unusedSimpArgs false
set_option linter.unusedVariables false
set_option maxHeartbeats 8000000
set_option maxRecDepth 100000
namespace Go.Proofs.Y
open Ext B Q RowKit PW PL PM
attribute [local go_sem] qI qH qV qW qz qA qM qL
def qQ.f(D:Int)(I:Int)(G:Int):Option (Bool):=if D≥I then(some (decide (D≤G)))else(some false)
theorem qQ.calls(G:Int)(L:Int)(I:Int)(r:Bool)(w:World)(h:qQ.f G L I=some r):
  Calls Tryz.prog 21 #[.int .i64 G, .int .i64 L, .int .i64 I] w fun e w'=>e= .returned (.bool r)∧qm w w':=by
 unfold qQ.f at h;have H:=h;clear h;replace H:=ich H;rcases H with⟨D,H⟩|⟨D,H⟩
 ·obtain rfl:=Option.some.inj H;go_enter Tryz.func21,Tryz.ntmps21;go_wp2;go_ret;exact⟨by first|rfl|(simp;done)|(simp[*];done)|(simp;exact isEmpty_ne _),qd⟩
 obtain rfl:=Option.some.inj H;go_enter Tryz.func21,Tryz.ntmps21;go_wp2;go_ret;exact⟨by first|rfl|(simp;done)|(simp[*];done)|(simp;exact isEmpty_ne _),qd⟩
def rW.f(U:ByteArray)(D:List (S38))(L:List (S40))(G:Int):Option (Int×Int×Int×Int×ByteArray×Bool):=(qQ.f G 1 (D.length:Int)).bind fun I=>(if I=true then(if 0≤(wrap64 (G-1))then(if(wrap64 (G-1))<(D.length:Int)then(some ((iH D (wrap64 (G-1))).f0,(iH D (wrap64 (G-1))).f1,(iH D (wrap64 (G-1))).f2,(iH D (wrap64 (G-1))).f3,(iH D (wrap64 (G-1))).f4,true))else(none))else(none))else(some (0,0,0,0,(⟨#[]⟩:ByteArray),false)))
theorem JU{W:World}{g:Nat}{L:TypeId}{X z1 Z U Y:Value}(h:W.heap[g]?=some (.cells #[X,z1,Z,U,Y] L (0,0)))(D v1 v2 I G:Value):
  (((((W.setCell ⟨g,0,none⟩ D).setCell ⟨g,1,none⟩ v1).setCell ⟨g,2,none⟩ v2).setCell ⟨g,3,none⟩ I).setCell ⟨g,4,none⟩ G).heap[g]?=some (.cells #[D,v1,v2,I,G] L (0,0)):=
 eY (eY (eY (eY (eY h 0 D rfl) 1 v1 rfl) 2 v2 rfl) 3 I rfl) 4 G rfl
theorem JJ{w W:World}{g:Nat}(h:Below w.heap.size w W)(D:w.heap.size≤g)(G v1 v2 L I:Value):
  Below w.heap.size w (((((W.setCell ⟨g,0,none⟩ G).setCell ⟨g,1,none⟩ v1).setCell ⟨g,2,none⟩ v2).setCell ⟨g,3,none⟩ L).setCell ⟨g,4,none⟩ I):=
 kr (kr (kr (kr (kr h D) D) D) D) D
theorem new1(w:World)(o1 D:Obj)(n:Nat):(((w.alloc o1).alloc D).drewN n).heap[w.heap.size+1]?=some D:=by
 have e:(w.alloc o1).heap.size=w.heap.size+1:=by simp
 rw[←e];exact qF _ _
theorem LB(w:World)(o1 D:Obj)(n:Nat):Below w.heap.size w (((w.alloc o1).alloc D).drewN n):=eP (eX (eX (Below.refl _ _) _) _) _
theorem rW.calls(L:ByteArray)(U:Option Addr)(X:Nat)(D:List (S38))(Z:Option Addr)(Y:Nat)(G:List (S40))(a1:Int)(r1:Int)(r2:Int)(r3:Int)(r4:Int)(r5:ByteArray)(r6:Bool)(w:World)(I:Kd.C k38 w U D.length D)(af:D.length≤X)(ab:Kd.C k40 w Z G.length G)(aa:G.length≤Y)(h:rW.f L D G a1=some (r1,r2,r3,r4,r5,r6)):
  Calls Tryz.prog 41 #[.agg #[.string L, .slice U D.length X, .slice Z G.length Y], .int .i64 a1] w fun e w'=>e= .returned (.tuple #[.agg #[.int .i64 r1, .int .i64 r2, .int .i64 r3, .int .i64 r4, .string r5], .bool r6])∧Below w.heap.size w w':=by
 have ae:=mk0 I;clear I af ab aa;obtain⟨t,ht,h⟩:=Option.bind_eq_some_iff.mp h;have A3:=mk0 ht;clear ht;cases t with
 |true=>
  rw[if_pos rfl]at h
  split at h
  case isFalse=>cases h
  rename_i p
  split at h
  case isFalse=>cases h
  rename_i q
  cases h;have an:(IntKind.i64.wrap (a1-1))=wrap64 (a1-1):=kZ _;generalize wrap64 (a1-1)=j at*;obtain⟨ad,e,ag,aj,ak,ah,ai⟩:=tH ae.out j p q;subst e;have hb:=World.block_lt_of_cell? w _ ag;have am:(ad.add (j.toNat*5)).block≠w.heap.size:=Nat.ne_of_lt hb;have al:(ad.add (j.toNat*5)).block≠w.heap.size+1:=Nat.ne_of_lt (Nat.lt_succ_of_lt hb);have p':=eq_true p;have q':=eq_true q;generalize iH D j=x at*;obtain⟨_,_,_,_,_⟩:=x;dsimp only at ag aj ak ah ai;go_enter Tryz.func41,Tryz.ntmps41;go_wp2_with(go_at_call 21;(with_reducible refine(qQ.calls a1 1 (D.length:Int) true _ A3.out).mono ?_);rintro e w'⟨rfl,⟨nd,rfl⟩⟩);refine bodyPost_ret (kU rfl _ _ (w.heap.size+1) 38 _ (0,0) _ rfl (JU (new1 w _ _ _) _ _ _ _ _) Tryz.underlying38 rfl (by kernel_rfl)) rfl ?_;exact⟨rfl,JJ (LB w _ _ _) (Nat.le_succ _) _ _ _ _ _⟩
 |false=>
  rw[if_neg (by decide)]at h;cases h;go_enter Tryz.func41,Tryz.ntmps41;go_wp2_with(go_at_call 21;(with_reducible refine(qQ.calls a1 1 (D.length:Int) false _ A3.out).mono ?_);rintro e w'⟨rfl,⟨nd,rfl⟩⟩);refine bodyPost_ret (kU rfl _ _ (w.heap.size+1) 38 _ (0,0) _ rfl (JU (new1 w _ _ _) _ _ _ _ _) Tryz.underlying38 rfl (by kernel_rfl)) rfl ?_;exact⟨rfl,JJ (LB w _ _ _) (Nat.le_succ _) _ _ _ _ _⟩
def ru.j0:Nat→Int→Int→Int→Int→ByteArray→Option (Int×Int×Bool)
 |0,_,_,_,_,_=>none
 |k+1,x198000,x198001,x198002,x198003,x198004=>(rC.f x198004).bind fun G=>(if G.2=0 then(some (1,G.1,decide (G.1>0)))else((ko.f k x198004).bind fun D=>(if x198000=9 then(if D.2.2=0 then(if D.1>9 then(some (0,0,false))else(some (D.1,D.2.1,true)))else(some (0,0,false)))else(some (0,0,false)))))
def ru.f(k:Nat)(D:Int)(L:Int)(U:Int)(G:Int)(I:ByteArray):Option (Int×Int×Bool):=if D=4 then(ru.j0 k D L U G I)else(if D=8 then(ru.j0 k D L U G I)else(if D=9 then(ru.j0 k D L U G I)else(some (0,0,false))))
theorem ru.calls(k:Nat)(am:Int)(an:Int)(ar:Int)(al:Int)(ae:ByteArray)(r1:Int)(r2:Int)(r3:Bool)(w:World)(h:ru.f k am an ar al ae=some (r1,r2,r3)):
  Calls Tryz.prog 44 #[.agg #[.int .i64 am, .int .i64 an, .int .i64 ar, .int .i64 al, .string ae]] w fun e w'=>e= .returned (.tuple #[.agg #[.int .i64 r1, .int .u64 r2], .bool r3])∧Below w.heap.size w w':=by
 have bm:=Tryz.underlying38;have bo:=Tryz.underlying46;have HB:=mk0 (Below.refl w.heap.size w);unfold ru.f at h;have H:=h;clear h;have aH:=mk0 H;clear H;go_enter Tryz.func44,Tryz.ntmps44;go_upto_block 0 with(first|(refine bxe 1 (cs:=#[.int .i64 am, .int .i64 an, .int .i64 ar, .int .i64 al, .string ae]) (t:=38) ?_;intro aI hg w3 ab L;have D:=mk0 ab;have aS:=glh hg HB;replace HB:=bsh HB L;clear L ab hg)|(refine bxe 2 (cs:=#[.int .i64 0, .int .u64 0]) (t:=46) ?_;intro ag hg w4 ab L;have G:=mk0 ab;have a9:=glh hg HB;replace HB:=bsh HB L;have Y:=nlh hg D;have aa:=ngh hg D;replace D:=bkh D L;clear L ab hg;have bn:=Y.out;have bl:=aa.out;obtain⟨_,_,_,_,_,_,_,_,_,_⟩:=wm D.out))
 (try simp only[Act.put,List.setIfInBounds_toArray,List.set_cons_zero,List.set_cons_succ]);go_cut [] (fun wc=>∃(kq:Nat) (ah:Int) (ai:Int),eD (ru.j0 kq am an ar al ae=some (r1,r2,r3))∧eD (kq≤k)∧eD (wc.heap[aI]?=some (.cells #[.int .i64 am, .int .i64 an, .int .i64 ar, .int .i64 al, .string ae] 38 (0,0)))∧eD (wc.heap[ag]?=some (.cells #[.int .i64 ah, .int .u64 ai] 46 (0,0)))∧eD (Below w.heap.size w wc))
 case first=>
  have H:=aH.out;clear aH;replace H:=ic H;rcases H with⟨c7,H⟩|⟨c7,H⟩
  ·have aq:=beq_iff_eq.mpr c7;have aN:=bne_eq_false_iff_eq.mpr c7;clear c7;(first|rw[aq]|(simp only[kZ,qY];rw[aq])|skip);have H':=mk0 H;clear H;go_wp2;go_meet;case rel=>exact⟨_,(0),(0),H',ql,bka D,bka G,hba HB⟩
  have aq:=beq_eq_false_iff_ne.mpr c7;have aN:=bne_iff_ne.mpr c7;(first|rw[aq]|(simp only[kZ,qY];rw[aq])|skip);replace H:=ic H;rcases H with⟨c8,H⟩|⟨c8,H⟩
  ·have aL:=beq_iff_eq.mpr c8;have aO:=bne_eq_false_iff_eq.mpr c8;clear c8;have H':=mk0 H;clear H;go_wp2;go_meet;case rel=>exact⟨_,(0),(0),H',ql,bka D,bka G,hba HB⟩
  have aL:=beq_eq_false_iff_ne.mpr c8;have aO:=bne_iff_ne.mpr c8;replace H:=ic H;rcases H with⟨c9,H⟩|⟨c9,H⟩
  ·have aP:=beq_iff_eq.mpr c9;have aM:=bne_eq_false_iff_eq.mpr c9;clear c9;have H':=mk0 H;clear H;go_wp2;go_meet;case rel=>exact⟨_,(0),(0),H',ql,bka D,bka G,hba HB⟩
  have aP:=beq_eq_false_iff_ne.mpr c9;have aM:=bne_iff_ne.mpr c9;obtain⟨rfl,rfl,rfl⟩:=sj3 H;clear H;have aQ:=aa.out;have aZ:=Y.out;obtain⟨_,_,_,_⟩:=rG G.out;go_wp2;refine bodyPost_ret (kU rfl _ _ ag 46 #[.int .i64 0, .int .u64 0] (0,0) _ rfl (by exact obk (eY (obk (eY (obk G.out) 0 _ rfl)) 1 _ rfl)) Tryz.underlying46 rfl (by kernel_rfl)) rfl ?_;exact⟨qe,bok HB.out⟩
 case rest=>
  clear aH;obtain⟨kq,ah,ai,HA,HJ1,D,G,HB⟩:=hcut;cases kq with
  |zero=>exact absurd HA.out (by simp[ru.j0])
  |succ kj1=>
   have H:=HA.out;clear HA;simp only[ru.j0]at H;replace H:=bsm H;obtain⟨⟨aj,ak⟩,aA,H⟩:=H;(try dsimp only at H);replace H:=ic H;rcases H with⟨ax,H⟩|⟨ax,H⟩
   ·have aE:=beq_iff_eq.mpr ax;have aJ:=bne_eq_false_iff_eq.mpr ax;clear ax;obtain⟨rfl,rfl,rfl⟩:=sj3 H;clear H;have bb:=Y.out;have bk:=aa.out;obtain⟨_,_,_,_,_,_,_,_,_,_⟩:=wm D.out;go_wp2_with((refine gcl 57 (some 18) ?_;refine gca Tryz.func57 (rC.calls ae aj ak _ aA.out) ?_;rintro e bv⟨rfl,L⟩;refine⟨_,rfl,?_⟩;replace D:=bkh D L;replace G:=bkh G L;replace HB:=bsh HB L;(try clear L);obtain⟨_,_,_,_⟩:=rG G.out));refine bodyPost_ret (kU rfl _ _ ag 46 #[.int .i64 1, .int .u64 aj] (0,0) _ rfl (by exact obk (eY (obk (eY (obk G.out) 0 _ rfl)) 1 _ rfl)) Tryz.underlying46 rfl (by kernel_rfl)) rfl ?_;exact⟨qe,bok HB.out⟩
   have aE:=beq_eq_false_iff_ne.mpr ax;have aJ:=bne_iff_ne.mpr ax;replace H:=bsm H;obtain⟨⟨ap,ao,aw⟩,aB,H⟩:=H;(try dsimp only at H);replace H:=ic H;rcases H with⟨ay,H⟩|⟨ay,H⟩
   ·have aK:=beq_iff_eq.mpr ay;have aC:=bne_eq_false_iff_eq.mpr ay;clear ay;replace H:=ic H;rcases H with⟨az,H⟩|⟨az,H⟩
    ·have aG:=beq_iff_eq.mpr az;have aD:=bne_eq_false_iff_eq.mpr az;clear az;replace H:=icg H;rcases H with⟨aF,H⟩|⟨aF,H⟩
     ·obtain⟨rfl,rfl,rfl⟩:=sj3 H;clear H;have a4:=Y.out;have aU:=aa.out;obtain⟨_,_,_,_,_,_,_,_,_,_⟩:=wm D.out;go_wp2_with(first|(refine gcl 57 (some 18) ?_;refine gca Tryz.func57 (rC.calls ae aj ak _ aA.out) ?_;rintro e bp⟨rfl,L⟩;refine⟨_,rfl,?_⟩;replace D:=bkh D L;replace G:=bkh G L;replace HB:=bsh HB L;(try clear L);obtain⟨_,_,_,_,_,_,_,_,_,_⟩:=wm D.out)|(refine gcl 58 (some 30) ?_;refine gca Tryz.func58 (ko.calls kj1 ae ap ao aw _ aB.out) ?_;rintro e bD⟨rfl,L⟩;refine⟨_,rfl,?_⟩;replace D:=bkh D L;replace G:=bkh G L;replace HB:=bsh HB L;(try clear L))|(refine bxe 6 (cs:=#[.int .i64 0, .int .u64 0]) (t:=46) ?_;intro av hg bx ab L;have af:=mk0 ab;have au:=glh hg HB;replace HB:=bsh HB L;have U:=nlh hg D;have X:=ngh hg D;replace D:=bkh D L;have I:=nlh hg G;have Z:=ngh hg G;replace G:=bkh G L;clear L ab hg;have a0:=X.out;have aW:=U.out;have aX:=Z.out;have aV:=I.out;obtain⟨_,_,_,_⟩:=rG af.out;obtain⟨_,_,_,_,_,_,_,_,_,_⟩:=wm D.out;obtain⟨_,_,_,_⟩:=rG G.out));refine bodyPost_ret (kU rfl _ _ ag 46 #[.int .i64 0, .int .u64 0] (0,0) _ rfl (by exact obk (eY (obk (eY (obk (vF (obk (vF (obk G.out) I.out)) I.out)) 0 _ rfl)) 1 _ rfl)) Tryz.underlying46 rfl (by kernel_rfl)) rfl ?_;exact⟨qe,bok HB.out⟩
     obtain⟨rfl,rfl,rfl⟩:=sj3 H;clear H;have a3:=Y.out;have bj:=aa.out;obtain⟨_,_,_,_,_,_,_,_,_,_⟩:=wm D.out;go_wp2_with(first|(refine gcl 57 (some 18) ?_;refine gca Tryz.func57 (rC.calls ae aj ak _ aA.out) ?_;rintro e br⟨rfl,L⟩;refine⟨_,rfl,?_⟩;replace D:=bkh D L;replace G:=bkh G L;replace HB:=bsh HB L;(try clear L);obtain⟨_,_,_,_,_,_,_,_,_,_⟩:=wm D.out)|(refine gcl 58 (some 30) ?_;refine gca Tryz.func58 (ko.calls kj1 ae ap ao aw _ aB.out) ?_;rintro e bA⟨rfl,L⟩;refine⟨_,rfl,?_⟩;replace D:=bkh D L;replace G:=bkh G L;replace HB:=bsh HB L;(try clear L))|(refine bxe 6 (cs:=#[.int .i64 0, .int .u64 0]) (t:=46) ?_;intro av hg bw ab L;have af:=mk0 ab;have au:=glh hg HB;replace HB:=bsh HB L;have U:=nlh hg D;have X:=ngh hg D;replace D:=bkh D L;have I:=nlh hg G;have Z:=ngh hg G;replace G:=bkh G L;clear L ab hg;have bf:=X.out;have bi:=U.out;have a1:=Z.out;have a5:=I.out;obtain⟨_,_,_,_⟩:=rG af.out;obtain⟨_,_,_,_,_,_,_,_,_,_⟩:=wm D.out;obtain⟨_,_,_,_⟩:=rG G.out));refine bodyPost_ret (kU rfl _ _ ag 46 #[.int .i64 ap, .int .u64 ao] (0,0) _ rfl (by exact obk (eY (obk (eY (obk (vF (obk (vF (obk G.out) I.out)) I.out)) 0 _ rfl)) 1 _ rfl)) Tryz.underlying46 rfl (by kernel_rfl)) rfl ?_;exact⟨qe,bok HB.out⟩
    have aG:=beq_eq_false_iff_ne.mpr az;have aD:=bne_iff_ne.mpr az;obtain⟨rfl,rfl,rfl⟩:=sj3 H;clear H;have aY:=Y.out;have a7:=aa.out;obtain⟨_,_,_,_,_,_,_,_,_,_⟩:=wm D.out;go_wp2_with(first|(refine gcl 57 (some 18) ?_;refine gca Tryz.func57 (rC.calls ae aj ak _ aA.out) ?_;rintro e bB⟨rfl,L⟩;refine⟨_,rfl,?_⟩;replace D:=bkh D L;replace G:=bkh G L;replace HB:=bsh HB L;(try clear L);obtain⟨_,_,_,_,_,_,_,_,_,_⟩:=wm D.out)|(refine gcl 58 (some 30) ?_;refine gca Tryz.func58 (ko.calls kj1 ae ap ao aw _ aB.out) ?_;rintro e bu⟨rfl,L⟩;refine⟨_,rfl,?_⟩;replace D:=bkh D L;replace G:=bkh G L;replace HB:=bsh HB L;(try clear L))|(refine bxe 6 (cs:=#[.int .i64 0, .int .u64 0]) (t:=46) ?_;intro av hg bC ab L;have af:=mk0 ab;have au:=glh hg HB;replace HB:=bsh HB L;have U:=nlh hg D;have X:=ngh hg D;replace D:=bkh D L;have I:=nlh hg G;have Z:=ngh hg G;replace G:=bkh G L;clear L ab hg;have a8:=X.out;have a2:=U.out;have aR:=Z.out;have bh:=I.out;obtain⟨_,_,_,_⟩:=rG af.out;obtain⟨_,_,_,_,_,_,_,_,_,_⟩:=wm D.out;obtain⟨_,_,_,_⟩:=rG G.out));refine bodyPost_ret (kU rfl _ _ ag 46 #[.int .i64 0, .int .u64 0] (0,0) _ rfl (by exact obk (eY (obk (eY (obk (vF (obk (vF (obk G.out) I.out)) I.out)) 0 _ rfl)) 1 _ rfl)) Tryz.underlying46 rfl (by kernel_rfl)) rfl ?_;exact⟨qe,bok HB.out⟩
   have aK:=beq_eq_false_iff_ne.mpr ay;have aC:=bne_iff_ne.mpr ay;obtain⟨rfl,rfl,rfl⟩:=sj3 H;clear H;have aT:=Y.out;have a6:=aa.out;obtain⟨_,_,_,_,_,_,_,_,_,_⟩:=wm D.out;go_wp2_with(first|(refine gcl 57 (some 18) ?_;refine gca Tryz.func57 (rC.calls ae aj ak _ aA.out) ?_;rintro e bq⟨rfl,L⟩;refine⟨_,rfl,?_⟩;replace D:=bkh D L;replace G:=bkh G L;replace HB:=bsh HB L;(try clear L);obtain⟨_,_,_,_,_,_,_,_,_,_⟩:=wm D.out)|(refine gcl 58 (some 30) ?_;refine gca Tryz.func58 (ko.calls kj1 ae ap ao aw _ aB.out) ?_;rintro e bs⟨rfl,L⟩;refine⟨_,rfl,?_⟩;replace D:=bkh D L;replace G:=bkh G L;replace HB:=bsh HB L;(try clear L))|(refine bxe 6 (cs:=#[.int .i64 0, .int .u64 0]) (t:=46) ?_;intro av hg bz ab L;have af:=mk0 ab;have au:=glh hg HB;replace HB:=bsh HB L;have U:=nlh hg D;have X:=ngh hg D;replace D:=bkh D L;have I:=nlh hg G;have Z:=ngh hg G;replace G:=bkh G L;clear L ab hg;have ba:=X.out;have be:=U.out;have bc:=Z.out;have bd:=I.out;obtain⟨_,_,_,_⟩:=rG af.out;obtain⟨_,_,_,_,_,_,_,_,_,_⟩:=wm D.out;obtain⟨_,_,_,_⟩:=rG G.out));refine bodyPost_ret (kU rfl _ _ ag 46 #[.int .i64 0, .int .u64 0] (0,0) _ rfl (by exact obk (eY (obk (eY (obk (vF (obk (vF (obk G.out) I.out)) I.out)) 0 _ rfl)) 1 _ rfl)) Tryz.underlying46 rfl (by kernel_rfl)) rfl ?_;exact⟨qe,bok HB.out⟩
def tN.f(D:Int):Option (Bool):=if D=7 then(some true)else(some (D==9))
theorem tN.calls(I:Int)(r:Bool)(w:World)(h:tN.f I=some r):
  Calls Tryz.prog 27 #[.int .i64 I] w fun e w'=>e= .returned (.bool r)∧qm w w':=by
 have H:(if I=7 then(some true)else(some (I==9)))=some r:=h;clear h;replace H:=ic H;rcases H with⟨c2,H⟩|⟨c2,H⟩
 ·have D:=beq_iff_eq.mpr c2;have G:=bne_eq_false_iff_eq.mpr c2;clear c2;obtain rfl:=Option.some.inj H;go_enter Tryz.func27,Tryz.ntmps27;go_wp2;go_ret;exact⟨by first|rfl|(simp;done)|(simp[*];done)|(simp;exact isEmpty_ne _),qd⟩
 have D:=beq_eq_false_iff_ne.mpr c2;have G:=bne_iff_ne.mpr c2;obtain rfl:=Option.some.inj H;go_enter Tryz.func27,Tryz.ntmps27;go_wp2;go_ret;exact⟨by first|rfl|(simp;done)|(simp[*];done)|(simp;exact isEmpty_ne _),qd⟩
def uS.f(D:Int):Option (Bool):=if D=3 then(some true)else(some (D==7))
theorem uS.calls(I:Int)(r:Bool)(w:World)(h:uS.f I=some r):
  Calls Tryz.prog 45 #[.int .i64 I] w fun e w'=>e= .returned (.bool r)∧qm w w':=by
 have H:(if I=3 then(some true)else(some (I==7)))=some r:=h;clear h;replace H:=ic H;rcases H with⟨c2,H⟩|⟨c2,H⟩
 ·have D:=beq_iff_eq.mpr c2;have G:=bne_eq_false_iff_eq.mpr c2;clear c2;obtain rfl:=Option.some.inj H;go_enter Tryz.func45,Tryz.ntmps45;go_wp2;go_ret;exact⟨by first|rfl|(simp;done)|(simp[*];done)|(simp;exact isEmpty_ne _),qd⟩
 have D:=beq_eq_false_iff_ne.mpr c2;have G:=bne_iff_ne.mpr c2;obtain rfl:=Option.some.inj H;go_enter Tryz.func45,Tryz.ntmps45;go_wp2;go_ret;exact⟨by first|rfl|(simp;done)|(simp[*];done)|(simp;exact isEmpty_ne _),qd⟩
def rz.f(D:Int):Option (Bool):=if D=8 then(some true)else(some (D==9))
theorem rz.calls(I:Int)(r:Bool)(w:World)(h:rz.f I=some r):
  Calls Tryz.prog 43 #[.int .i64 I] w fun e w'=>e= .returned (.bool r)∧qm w w':=by
 have H:(if I=8 then(some true)else(some (I==9)))=some r:=h;clear h;replace H:=ic H;rcases H with⟨c2,H⟩|⟨c2,H⟩
 ·have D:=beq_iff_eq.mpr c2;have G:=bne_eq_false_iff_eq.mpr c2;clear c2;obtain rfl:=Option.some.inj H;go_enter Tryz.func43,Tryz.ntmps43;go_wp2;go_ret;exact⟨by first|rfl|(simp;done)|(simp[*];done)|(simp;exact isEmpty_ne _),qd⟩
 have D:=beq_eq_false_iff_ne.mpr c2;have G:=bne_iff_ne.mpr c2;obtain rfl:=Option.some.inj H;go_enter Tryz.func43,Tryz.ntmps43;go_wp2;go_ret;exact⟨by first|rfl|(simp;done)|(simp[*];done)|(simp;exact isEmpty_ne _),qd⟩
def qE.f(D:Int):Option (Bool):=if D=5 then(some true)else(some (D==6))
theorem qE.calls(I:Int)(r:Bool)(w:World)(h:qE.f I=some r):
  Calls Tryz.prog 47 #[.int .i64 I] w fun e w'=>e= .returned (.bool r)∧qm w w':=by
 have H:(if I=5 then(some true)else(some (I==6)))=some r:=h;clear h;replace H:=ic H;rcases H with⟨c2,H⟩|⟨c2,H⟩
 ·have D:=beq_iff_eq.mpr c2;have G:=bne_eq_false_iff_eq.mpr c2;clear c2;obtain rfl:=Option.some.inj H;go_enter Tryz.func47,Tryz.ntmps47;go_wp2;go_ret;exact⟨by first|rfl|(simp;done)|(simp[*];done)|(simp;exact isEmpty_ne _),qd⟩
 have D:=beq_eq_false_iff_ne.mpr c2;have G:=bne_iff_ne.mpr c2;obtain rfl:=Option.some.inj H;go_enter Tryz.func47,Tryz.ntmps47;go_wp2;go_ret;exact⟨by first|rfl|(simp;done)|(simp[*];done)|(simp;exact isEmpty_ne _),qd⟩
mutual
def iK.j0:Nat→Bool→ByteArray→List (S38)→List (S40)→Option (Bool)
 |0,_,_,_,_=>none
 |k+1,x20,x206000,x206001,x206002=>if x20=true then(some false)else(iK.l0 k 0 x206000 x206001 x206002)
def iK.l0:Nat→Int→ByteArray→List (S38)→List (S40)→Option (Bool)
 |0,_,_,_,_=>none
 |k+1,x3,x206000,x206001,x206002=>if x3<(x206001.length:Int)then(if 0≤x3 then(if(((iH x206001 x3).f4).size:Int)>80 then(some false)else(iK.l0 k (wrap64 (x3+1)) x206000 x206001 x206002))else(none))else(iK.l1 k 0 x206000 x206001 x206002)
def iK.l1:Nat→Int→ByteArray→List (S38)→List (S40)→Option (Bool)
 |0,_,_,_,_=>none
 |k+1,x4,x206000,x206001,x206002=>if x4<(x206002.length:Int)then(if 0≤x4 then(if(((iR x206002 x4).f4).size:Int)>80 then(some false)else(iK.l1 k (wrap64 (x4+1)) x206000 x206001 x206002))else(none))else(some true)
end
def iK.f(k:Nat)(I:ByteArray)(G:List (S38))(D:List (S40)):Option (Bool):=if(G.length:Int)>70 then(iK.j0 k true I G D)else(if(D.length:Int)>110 then(iK.j0 k true I G D)else(iK.j0 k (decide ((I.size:Int)>60)) I G D))
theorem iK.calls(k:Nat)(L:ByteArray)(Y:Option Addr)(Z:Nat)(G:List (S38))(ab:Option Addr)(aa:Nat)(I:List (S40))(r:Bool)(w:World)(ao:Kd.C k38 w Y G.length G)(az:G.length≤Z)(ax:Kd.C k40 w ab I.length I)(ah:I.length≤aa)(h:iK.f k L G I=some r):
  Calls Tryz.prog 7 #[.agg #[.string L, .slice Y G.length Z, .slice ab I.length aa]] w fun e w'=>e= .returned (.bool r)∧Below w.heap.size w w':=by
 have aW:=Tryz.underlying25;have an:=mk0 ao;have aT:=mk0 az;clear ao az;have ap:=mk0 ax;have aU:=mk0 ah;clear ax ah;have HB:=mk0 (Below.refl w.heap.size w);unfold iK.f at h;have H:=h;clear h;have aI:=mk0 H;clear H;go_enter Tryz.func7,Tryz.ntmps7;go_upto_region 1 with((refine gds 1 ?_;(try(refine qg (by rfl) ?_;dsimp only));refine bxe 1 (cs:=#[.string L, .slice Y G.length Z, .slice ab I.length aa]) (t:=25) ?_;intro ag hg w3 aB hb;have D:=mk0 aB;have aS:=glh hg HB;replace HB:=bsh HB hb;clear hb aB hg))
 (try simp only[Act.put,List.setIfInBounds_toArray,List.set_cons_zero,List.set_cons_succ]);go_cut [20] (fun aV wc=>∃(kq:Nat) (ae:Bool),aV= .bool ae∧eD (iK.j0 kq ae L G I=some r)∧eD (kq≤k)∧eD (wc.heap[ag]?=some (.cells #[.string L,(.slice Y G.length Z),(.slice ab I.length aa)] 25 (0,0)))∧eD (Below w.heap.size w wc))
 case first=>
  have H:=aI.out;clear aI;replace H:=ic H;rcases H with⟨c4,H⟩|⟨c4,H⟩
  ·have af:decide (70<(G.length:Int))=true:=decide_eq_true c4;have aR:decide (70<G.length)=true:=decide_eq_true (by omega);clear c4;(first|rw[af]|(simp only[kZ,qY];rw[af])|skip);have H':=mk0 H;clear H;obtain⟨_,_,_,_,_,_⟩:=qc D.out;go_wp2;go_meet;case rel=>exact⟨_,(true),qr,H',ql,bka D,hba HB⟩
  have af:decide (70<(G.length:Int))=false:=decide_eq_false c4;have aR:decide (70<G.length)=false:=decide_eq_false (by omega);clear c4;(first|rw[af]|(simp only[kZ,qY];rw[af])|skip);replace H:=ic H;rcases H with⟨c6,H⟩|⟨c6,H⟩
  ·have aO:decide (110<(I.length:Int))=true:=decide_eq_true c6;have aN:decide (110<I.length)=true:=decide_eq_true (by omega);clear c6;have H':=mk0 H;clear H;obtain⟨_,_,_,_,_,_⟩:=qc D.out;go_wp2;go_meet;case rel=>exact⟨_,(true),qr,H',ql,bka D,hba HB⟩
  have aO:decide (110<(I.length:Int))=false:=decide_eq_false c6;have aN:decide (110<I.length)=false:=decide_eq_false (by omega);clear c6;have H':=mk0 H;clear H;obtain⟨_,_,_,_,_,_⟩:=qc D.out;go_wp2;go_meet;case rel=>exact⟨_,(decide ((L.size:Int)>60)),qr,H',ql,bka D,hba HB⟩
 case rest=>
  clear aI;obtain⟨kq,ae,rfl,HA,HJ1,D,HB⟩:=hcut;cases kq with
  |zero=>exact absurd HA.out (by simp[iK.j0])
  |succ kj1=>
   have H:=HA.out;clear HA;simp only[iK.j0]at H;by_cases c9:ae=true
   ·subst c9;(have H1:(some false)=some r:=by rw[if_pos rfl]at H;exact H);clear H;have H:=H1;clear H1;obtain rfl:=Option.some.inj H;go_wp2;go_ret;exact⟨qe,bok HB.out⟩
   replace c9:=Bool.eq_false_iff.mpr c9;subst c9;(have H1:(iK.l0 kj1 0 L G I)=some r:=by rw[if_neg (show ¬(false=true) by decide)]at H;exact H);clear H;have H:=H1;clear H1;have H':=mk0 H;clear H;go_wp2;go_loopg [3] kj1 (fun kq v3 w'=>∃(U:Int),v3= .int .i64 U∧eD (iK.l0 kq U L G I=some r)∧eD (kq≤kj1)∧eD (w'.heap[ag]?=some (.cells #[.string L,(.slice Y G.length Z),(.slice ab I.length aa)] 25 (0,0)))∧eD (Below w.heap.size w w'));case atStart=>exact⟨(0),qr,H',⟨Nat.le_refl _⟩,bka D,hba HB⟩
   case round=>
    clear H';obtain⟨U,rfl,HA,HK2,D,HB⟩:=hrel;cases gk with
    |zero=>exact absurd HA.out (by simp[iK.l0])
    |succ k2=>
     have H:=HA.out;clear HA;simp only[iK.l0]at H;replace H:=ic H;rcases H with⟨c10,H⟩|⟨c10,H⟩
     ·have aG:=decide_eq_true c10;clear c10;replace H:=idp H;obtain⟨_,H⟩:=H;replace H:=ic H;rcases H with⟨ai,H⟩|⟨ai,H⟩
      ·have aE:decide (80<(((iH G U).f4).size:Int))=true:=decide_eq_true ai;have aH:decide (80<((iH G U).f4).size)=true:=decide_eq_true (by omega);clear ai;obtain rfl:=Option.some.inj H;obtain⟨_,_,_,_,_,_⟩:=qc D.out;obtain⟨aC,rfl,av,ar,aj,aw,au,aM,aL⟩:=uD an HB U;go_wp2;go_ret;exact⟨qe,bok HB.out⟩
      have aE:decide (80<(((iH G U).f4).size:Int))=false:=decide_eq_false ai;have aH:decide (80<((iH G U).f4).size)=false:=decide_eq_false (by omega);clear ai;have H':=mk0 H;clear H;obtain⟨_,_,_,_,_,_⟩:=qc D.out;obtain⟨aC,rfl,av,ar,aj,aw,au,aM,aL⟩:=uD an HB U;go_wp2;go_roundg k2;(case measure=>have:=HJ1.out;have:=HK2.out;omega);case rel=>exact⟨(wrap64 (U+1)),qr,H',⟨by have:=HJ1.out;have:=HK2.out;omega⟩,bka D,hba HB⟩
     have aG:=decide_eq_false c10;clear c10;have H':=mk0 H;clear H;obtain⟨_,_,_,_,_,_⟩:=qc D.out;go_wp2;go_loopg [4] k2 (fun kq v4 w'=>∃(X:Int),v4= .int .i64 X∧eD (iK.l1 kq X L G I=some r)∧eD (kq≤k2)∧eD (w'.heap[ag]?=some (.cells #[.string L,(.slice Y G.length Z),(.slice ab I.length aa)] 25 (0,0)))∧eD (Below w.heap.size w w'));case atStart=>exact⟨(0),qr,H',⟨Nat.le_refl _⟩,bka D,hba HB⟩
     case round=>
      clear H';obtain⟨X,rfl,HA,HK3,D,HB⟩:=hrel;cases gk with
      |zero=>exact absurd HA.out (by simp[iK.l1])
      |succ k3=>
       have H:=HA.out;clear HA;simp only[iK.l1]at H;replace H:=icd H;rcases H with⟨aF,H⟩|⟨aF,H⟩
       ·replace H:=idp H;obtain⟨_,H⟩:=H;replace H:=ic H;rcases H with⟨aq,H⟩|⟨aq,H⟩
        ·have aK:decide (80<(((iR I X).f4).size:Int))=true:=decide_eq_true aq;have aJ:decide (80<((iR I X).f4).size)=true:=decide_eq_true (by omega);clear aq;obtain rfl:=Option.some.inj H;obtain⟨_,_,_,_,_,_⟩:=qc D.out;obtain⟨aD,rfl,ay,aA,am,al,ak,aP,aQ⟩:=vB ap HB X;go_wp2;go_ret;exact⟨qe,bok HB.out⟩
        have aK:decide (80<(((iR I X).f4).size:Int))=false:=decide_eq_false aq;have aJ:decide (80<((iR I X).f4).size)=false:=decide_eq_false (by omega);clear aq;have H':=mk0 H;clear H;obtain⟨_,_,_,_,_,_⟩:=qc D.out;obtain⟨aD,rfl,ay,aA,am,al,ak,aP,aQ⟩:=vB ap HB X;go_wp2;go_roundg k3;(case measure=>have:=HJ1.out;have:=HK2.out;have:=HK3.out;omega);case rel=>exact⟨(wrap64 (X+1)),qr,H',⟨by have:=HJ1.out;have:=HK2.out;have:=HK3.out;omega⟩,bka D,hba HB⟩
       obtain rfl:=Option.some.inj H;obtain⟨_,_,_,_,_,_⟩:=qc D.out;go_wp2;go_ret;exact⟨qe,bok HB.out⟩
end Go.Proofs.Y
