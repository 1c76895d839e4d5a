/- graph.which, walked by hand, at nodes and at flows (written by wip/tools/gen_wh.py). -/
import Derived.Test.YtcaegaljhogbjaaGreatDoorGraphMore
set_option linter.unusedSimpArgs false
set_option linter.unusedVariables false
set_option maxHeartbeats 8000000
set_option maxRecDepth 100000
namespace Go.Proofs.Gr
open RowKit Lib Go.Sort PW PL PM Y Gd
def whN(P:S38→Bool):Nat→List Int→Int→List S38→Option (List Int)
  |0,_,_,_=>none
  |k+1,xs,i,l=>if i<(l.length:Int)then(if 0≤i then(if P (iH l i)=true then(if xs.length<17592186044416 then whN P k (xs++[wrap64 (i+1)]) (wrap64 (i+1)) l else none)else whN P k xs (wrap64 (i+1)) l)else none)else some xs
theorem Az(P:S38→Bool):∀k xs i l,LeO (whN P k xs i l) (whN P (k+1) xs i l)
  |0,_,_,_=>fun r h=>by simp[whN]at h
  |k+1,xs,i,l=>by
    rw[whN,whN]
    refine LeO.ite (LeO.ite (LeO.ite (LeO.ite (Az P k _ _ l) (LeO.refl _)) (Az P k _ _ l)) (LeO.refl _)) (LeO.refl _)
theorem GH (P:S38→Bool) (g:FuncId) (eg:∀args w,(callFunc g args).run Tryz.prog w= .ok (.enter g args) w) (fv:Array Value) (k:Nat) (A1:Option Addr) (c1:Nat) (l:List S38) (r:List Int) (w:World)
    (hP:∀(x:S38) (W:World),Below w.heap.size w W→Calls Tryz.prog g (#[.agg #[.int .i64 x.f0, .int .i64 x.f1, .int .i64 x.f2, .int .i64 x.f3, .string x.f4]]++fv) W fun e w'=>e= .returned (.bool (P x))∧Below W.heap.size W w')
    (hC:Kd.C k38 w A1 l.length l) (h:whN P k [] 0 l=some r):
    Calls Tryz.prog 36 #[.slice A1 l.length c1, .func (.func g) #[] fv] w fun e w'=>∃v0:Value,e= .returned v0∧Kd.R (Kd.int .i64) 3 w' w.heap.size (fun _=>True) v0 r∧Below w.heap.size w w':=by
  have HC:=mk0 hC;have HP:=mk0 hP;have G:=mk0 h;clear hC hP h;have HB:=mk0 (Below.refl w.heap.size w);go_enter Tryz.func36,Tryz.ntmps36;go_wp2_with fail;go_loopg [5,10] k (fun kq v5 ab wr=>∃(xs:List Int) (i:Int),ab= .int .i64 i∧eD (whN P kq xs i l=some r)∧eD (kq≤k)∧eD (Kd.R (Kd.int .i64) 3 wr w.heap.size (fun _=>True) v5 xs)∧eD (Below w.heap.size w wr));case atStart=>exact⟨[],0,rfl,G,⟨Nat.le_refl _⟩,⟨Kd.sO _ _ _ _ _⟩,HB⟩
  case round=>
    clear G;obtain⟨xs,i,rfl,Z,HK1,I,HB⟩:=hrel;cases gk with
    |zero=>exact absurd Z.out (by simp[whN])
    |succ k1=>
      have H:=Z.out;clear Z;simp only[whN]at H;by_cases c4:i<(l.length:Int)
      · rw[if_pos c4]at H
        have U:decide (i<(l.length:Int))=true:=decide_eq_true c4;by_cases c5:0≤i
        · rw[if_pos c5]at H
          obtain⟨_,rfl,e0,e1,e2,e3,e4⟩:=tH (Kd.iT HC.out HB.out) i c5 c4;replace c4:=eq_true c4;replace c5:=eq_true c5;generalize iH l i=x at*;have Y:=mk0 (fun W (hW:Below wr.heap.size wr W)=>HP.out x W (kg HB.out hW));have G:=H;clear H;(obtain⟨bx,X⟩:∃bx,P x=bx:=⟨_,rfl⟩);rw[X]at Y G;clear X;obtain⟨f0,f1,f2,f3,f4⟩:=x;dsimp only at e0 e1 e2 e3 e4 Y G;cases bx with
          |true=>
            rw[if_pos rfl]at G;by_cases c7:xs.length<17592186044416
            · rw[if_pos c7]at G
              have LM:=mk0 c7;have HH:=mk0 G;clear c7 G;go_wp2_with(first|(go_at_fn g;(with_reducible refine(Y.out _ (eX (Below.refl _ _) _)).mono ?_);rintro e w3⟨rfl,D⟩;have L:=mk0 (kg (eX HB.out _) D);have n1:=mk0 (Kd.qJ (Kd.qh I.out _) D);clear HB I;have HB:=L;have I:=n1;clear L n1 D)|((with_reducible refine kW (b:= .append) (xs:=#[.tmp 18, .tmp 21]) rfl ?_);at_builtin;refine Kd.rF (Kd.int .i64) (w0:=w) w.heap.size rfl (.tmp 18) (.tmp 21) 36 3 (.int .i64 0) 8 rfl Tryz.underlying36 info3 rfl (by decide) (by omega) u5 xs (wrap64 (i+1)) [.int .i64 (wrap64 (i+1))] (fun _=>True) (fun _=>False) rfl rfl ?aP (fun _ hk=>hk.elim) ?aF ?aO ?aB ?aS ?aL ?_;(case aP=>exact rfl);(case aB=>exact(by repeat(first|exact HB.out|apply eX|apply eP|apply eZ)));(case aF=>exact(fun _ _=>trivial));(case aO=>exact(by(with_reducible repeat(first|apply Kd.qh|apply Kd.qx|apply Kd.qG));exact I.out));(case aS=>exact(kN (by repeat(first|exact HB.out|apply eX|apply eP|apply eZ))));(case aL=>have:=LM.out;omega);intro v9 w9 ho hb hg aa;have L:=mk0 hb;have n1:=mk0 ho;clear HB I;have HB:=L;have I:=n1;clear L n1 ho hb hg aa));go_roundg k1;(case measure=>have:=HK1.out;omega);case rel=>exact⟨xs++[wrap64 (i+1)],wrap64 (i+1),rfl,HH,⟨by have:=HK1.out;omega⟩,I,HB⟩
            · rw[if_neg c7]at G
              cases G
          |false=>
            rw[if_neg (by decide)]at G;have HH:=mk0 G;clear G;go_wp2_with(first|(go_at_fn g;(with_reducible refine(Y.out _ (eX (Below.refl _ _) _)).mono ?_);rintro e w3⟨rfl,D⟩;have L:=mk0 (kg (eX HB.out _) D);have n1:=mk0 (Kd.qJ (Kd.qh I.out _) D);clear HB I;have HB:=L;have I:=n1;clear L n1 D));go_roundg k1;(case measure=>have:=HK1.out;omega);case rel=>exact⟨xs,wrap64 (i+1),rfl,HH,⟨by have:=HK1.out;omega⟩,I,HB⟩
        · rw[if_neg c5]at H
          exact absurd H (by simp)
      · rw[if_neg c4]at H
        have U:decide (i<(l.length:Int))=false:=decide_eq_false c4;obtain rfl:=Option.some.inj H;clear H;go_wp2;go_ret;exact⟨_,rfl,I.out,HB.out⟩
abbrev Tab(w:World):Prop:=Wrong w
theorem Tab.below{w w':World}(h:Tab w)(b:Below w.heap.size w w'):Tab w':=Wrong.below h b
def tmP(a:Int)(x:S38):Bool:=decide (a>0)&&decide (x.f0=8∨x.f0=9)&&x.f3==a
theorem Bw(x:S38)(a:Int)(b:Nat)(w:World)(Y:w.cell? ⟨b,0,none⟩=some (.int .i64 a)):
    Calls Tryz.prog 42 #[.agg #[.int .i64 x.f0, .int .i64 x.f1, .int .i64 x.f2, .int .i64 x.f3, .string x.f4], .pointer (some ⟨b,0,none⟩)] w fun e w'=>e= .returned (.bool (tmP a x))∧Below w.heap.size w w':=by
  have U:=World.block_lt_of_cell? w _ Y;have aa:b≠w.heap.size:=Nat.ne_of_lt U;obtain⟨f0,f1,f2,f3,f4⟩:=x;unfold tmP;dsimp only;have HB:=mk0 (eX (Below.refl w.heap.size w) (.cells #[.int .i64 f0, .int .i64 f1, .int .i64 f2, .int .i64 f3, .string f4] 38));obtain⟨I,G⟩:∃I,decide (f0=8∨f0=9)=I:=⟨_,rfl⟩
  have L:=mk0 (Am f0);rw[G]at L⊢;clear G;by_cases X:a>0
  · have D:decide (a>0)=true:=decide_eq_true X
    rw[D];cases I with
    |true=>
      go_enter Tryz.func42,Tryz.ntmps42;go_wp2_with(go_at_call 43;(with_reducible refine(rz.calls _ _ _ L.out).mono ?_);rintro e Z⟨rfl,⟨nq,rfl⟩⟩);go_ret;exact⟨rfl,by repeat(first|exact HB.out|apply eP|apply eZ)⟩
    |false=>
      go_enter Tryz.func42,Tryz.ntmps42;go_wp2_with(go_at_call 43;(with_reducible refine(rz.calls _ _ _ L.out).mono ?_);rintro e Z⟨rfl,⟨nq,rfl⟩⟩);go_ret;exact⟨rfl,by repeat(first|exact HB.out|apply eP|apply eZ)⟩
  · have D:decide (a>0)=false:=decide_eq_false X
    rw[D];go_enter Tryz.func42,Tryz.ntmps42;go_wp2;go_ret;exact⟨rfl,by repeat(first|exact HB.out|apply eP|apply eZ)⟩
def sW.f(k:Nat)(I:ByteArray)(D:List S38)(G:List S40)(L:Int):Option (List Int):=whN (tmP L) k [] 0 D
theorem sW.mono:∀G L I D k,LeO (sW.f k G L I D) (sW.f (k+1) G L I D):=fun _ l1 _ a k=>Az (tmP a) k [] 0 l1
theorem sW.calls(k:Nat)(X:ByteArray)(I:Option Addr)(L:Nat)(D:List (S38))(Y:Option Addr)(U:Nat)(G:List (S40))(a1:Int)(r:List Int)(w:World)(Z:Kd.C k38 w I D.length D)(ab:D.length≤L)(ae:Kd.C k40 w Y G.length G)(aa:G.length≤U)(h:sW.f k X D G a1=some r):
    Calls Tryz.prog 18 #[.agg #[.string X, .slice I D.length L, .slice Y G.length U], .int .i64 a1] w fun e w'=>∃af:Value,e= .returned (af)∧Kd.R (Kd.int .i64) 3 w' w.heap.size (fun _=>True) af r∧Below w.heap.size w w':=by
  have HC:=mk0 Z;have HH:=mk0 (show whN (tmP a1) k [] 0 D=some r from h);clear Z ab ae aa h;go_enter Tryz.func18,Tryz.ntmps18;go_wp2_with fail;have HW:=mk0 (L8 w (.cells #[.string X, .slice I D.length L, .slice Y G.length U] 25) (.cells #[.int .i64 a1] 3))
  refine (GH (tmP a1) 42 (enters_of Tryz.func42 (by kernel_rfl) rfl) #[.pointer (some ⟨w.heap.size + 1, 0, none⟩)] k I L D r _
    (fun x W hW=>Bw x a1 (w.heap.size+1) W ((hW.cell (World.block_lt_of_cell? _ _ HW.out.2.1)).trans HW.out.2.1)) (Kd.iT HC.out (HW.out.1.mono (Nat.le_refl _))) HH.out).mono ?_
  rintro e w3⟨_,rfl,hr,hb⟩;have HR:=mk0 (Kd.uW hr HW.out.2.2);have HB:=mk0 (kg HW.out.1 hb);clear hr hb;go_wp2;go_ret;exact⟨_,rfl,HR.out,HB.out⟩
end Go.Proofs.Gr
