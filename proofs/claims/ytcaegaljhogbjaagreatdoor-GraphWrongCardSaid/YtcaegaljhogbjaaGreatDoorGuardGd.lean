/- The guard's reader, its methods together: whatever the. -/
import Derived.Test.YtcaegaljhogbjaaGreatDoorGuardWalk
set_option linter.unusedSimpArgs false
set_option linter.unusedVariables false
set_option maxHeartbeats 8000000
namespace Go.Proofs.Gd
open RowKit Lib Go.Sort PW PL PM G
theorem Ends.from{w1 wc D:World}{B n:Nat}{r:Option (List kD)}{e:Ending}{w':World}(G:Lib.OthersKept 118 (some B) wc D)(h:Ends w1 D B n r e w'):Ends w1 wc B n r e w':=by
  cases r with
  |none=>exact h
  |some l=>exact⟨h.1,h.2.1,G.trans h.2.2⟩
theorem St.pos{w1 wc:World}{B n:Nat}{x:kD}{l:List kD}(h:St w1 B n (x::l) wc):∃n',n=n'+1:=by
  obtain⟨A,c,v,xs,h1,_,_,_,D,_,_⟩:=h;exact⟨n-1,by have:=D.out;rw[List.length_cons]at this;omega⟩
theorem St.mono{w1 wc:World}{B n m:Nat}{L:List kD}(h:St w1 B n L wc)(G:n≤m):St w1 B m L wc:=by
  obtain⟨A,c,v,xs,h1,h2,D,U,I,Y,X⟩:=h;exact⟨A,c,v,xs,h1,h2,D,U,⟨Nat.le_trans I.out G⟩,Y,X⟩
theorem St.head{w1 wc:World}{B n:Nat}{x:kD}{l:List kD}(h:St w1 B n (x::l) wc):∃(ad:Addr) (m c:Nat),((m:Int)==0)=false∧(0:Int)<(m:Int)∧0<m∧wc.cell? ⟨B,0,none⟩=some (.slice (some ad) m c)∧wc.cell? ad=some (.int .i64 x.f0):=by
  obtain⟨A,c,v,xs,h1,_,D,_,_,_,G⟩:=h;obtain⟨ad,rfl,I,_⟩:=wH (Kd.iT D.out G.out) 0 (by omega) (by rw[List.length_cons];omega);exact⟨ad,(x::l).length,c,beq_eq_false_iff_ne.mpr (by rw[List.length_cons];omega),by rw[List.length_cons];omega,by rw[List.length_cons];omega,iF h1.out 0,I⟩
theorem Ba(x:Int)(w:World):Calls Tryz.prog 132 #[.int .i64 x] w fun e w'=>e= .returned (.bool (compares x))∧w'=w:=by
  unfold compares;cases h1:decide (6≤x)with
  |false=>
    go_enter Tryz.func132,Tryz.ntmps132;go_wp2;go_ret;exact⟨rfl,rfl⟩
  |true=>
    go_enter Tryz.func132,Tryz.ntmps132;go_wp2;go_ret;exact⟨rfl,rfl⟩
def fid:NT→FuncId
  | .guard=>61
  | .some=>84
  | .one=>109
  | .sum=>131
  | .product=>149
  | .factor=>154
def Told(w1:World)(B:Nat)(k:Nat):Prop:=
  ∀(D:NT) (L:List kD) (r:Option (List kD)) (wc:World) (n:Nat),n≤999→St w1 B n L wc→gd k D L=some r→Calls Tryz.prog (fid D) #[.pointer (some ⟨B,0,none⟩)] wc (Ends w1 wc B n r)
theorem makes(D:Fn)(first cap:Array Value)(w:World):(Instr.makeFunc D first cap).run Tryz.prog w= .ok (.func D first cap) w:=rfl
theorem yc{w1:World}{B k:Nat}(hw:Wrong w1)(ih:Told w1 B k)(L:List kD)(r:Option (List kD))(wc:World)(n:Nat)(D:n≤999)(h:St w1 B n L wc)(U:gd (k+1) .guard L=some r):
    Calls Tryz.prog 61 #[.pointer (some ⟨B,0,none⟩)] wc (Ends w1 wc B n r):=by
  have G:Lib.OthersKept 118 (some B) wc (wc.alloc (.cells #[.int .i64 13] 3)):=iB ((Below.refl _ _).alloc (Nat.le_refl _) _);have I:=mk0 (yw (gd k .some) 84 (enters_of Tryz.func84 (by kernel_rfl) rfl) [13] (B:=B) hw (fun L r wc n D hs ht=>ih .some L r wc n D hs ht) k L r (wc.alloc (.cells #[.int .i64 13] 3)) n wc.heap.size D (by decide) (h.below ((Below.refl _ _).alloc (Nat.le_refl _) _)) (qF wc _) U);have X:=makes;clear U ih h;cases r with
  |none=>
    go_enter Tryz.func61,Tryz.ntmps61;go_wp2_with(go_at_call 83;refine I.out.mono ?_;rintro e w2⟨⟨T,p,rfl⟩,Z⟩);exact⟨rfl,⟨T,p,rfl⟩,Z⟩
  |some l=>
    go_enter Tryz.func61,Tryz.ntmps61;go_wp2_with(go_at_call 83;refine I.out.mono ?_;rintro e w2⟨rfl,hs,Y⟩);go_end0;exact⟨rfl,hs,G.trans Y⟩
theorem yM{w1:World}{B k:Nat}(hw:Wrong w1)(ih:Told w1 B k)(L:List kD)(r:Option (List kD))(wc:World)(n:Nat)(D:n≤999)(h:St w1 B n L wc)(U:gd (k+1) .some L=some r):
    Calls Tryz.prog 84 #[.pointer (some ⟨B,0,none⟩)] wc (Ends w1 wc B n r):=by
  have G:Lib.OthersKept 118 (some B) wc (wc.alloc (.cells #[.int .i64 12] 3)):=iB ((Below.refl _ _).alloc (Nat.le_refl _) _);have I:=mk0 (yw (gd k .one) 109 (enters_of Tryz.func109 (by kernel_rfl) rfl) [12] (B:=B) hw (fun L r wc n D hs ht=>ih .one L r wc n D hs ht) k L r (wc.alloc (.cells #[.int .i64 12] 3)) n wc.heap.size D (by decide) (h.below ((Below.refl _ _).alloc (Nat.le_refl _) _)) (qF wc _) U);have X:=makes;clear U ih h;cases r with
  |none=>
    go_enter Tryz.func84,Tryz.ntmps84;go_wp2_with(go_at_call 83;refine I.out.mono ?_;rintro e w2⟨⟨T,p,rfl⟩,Z⟩);exact⟨rfl,⟨T,p,rfl⟩,Z⟩
  |some l=>
    go_enter Tryz.func84,Tryz.ntmps84;go_wp2_with(go_at_call 83;refine I.out.mono ?_;rintro e w2⟨rfl,hs,Y⟩);go_end0;exact⟨rfl,hs,G.trans Y⟩
theorem zG{w1:World}{B k:Nat}(hw:Wrong w1)(ih:Told w1 B k)(L:List kD)(r:Option (List kD))(wc:World)(n:Nat)(D:n≤999)(h:St w1 B n L wc)(U:gd (k+1) .sum L=some r):
    Calls Tryz.prog 131 #[.pointer (some ⟨B,0,none⟩)] wc (Ends w1 wc B n r):=by
  have G:Lib.OthersKept 118 (some B) wc (wc.alloc (.cells #[.int .i64 3, .int .i64 4] 3)):=iB ((Below.refl _ _).alloc (Nat.le_refl _) _);have I:=mk0 (yw (gd k .product) 149 (enters_of Tryz.func149 (by kernel_rfl) rfl) [3,4] (B:=B) hw (fun L r wc n D hs ht=>ih .product L r wc n D hs ht) k L r (wc.alloc (.cells #[.int .i64 3, .int .i64 4] 3)) n wc.heap.size D (by decide) (h.below ((Below.refl _ _).alloc (Nat.le_refl _) _)) (qF wc _) U);have X:=makes;clear U ih h;cases r with
  |none=>
    go_enter Tryz.func131,Tryz.ntmps131;go_wp2_with(go_at_call 83;refine I.out.mono ?_;rintro e w2⟨⟨T,p,rfl⟩,Z⟩);exact⟨rfl,⟨T,p,rfl⟩,Z⟩
  |some l=>
    go_enter Tryz.func131,Tryz.ntmps131;go_wp2_with(go_at_call 83;refine I.out.mono ?_;rintro e w2⟨rfl,hs,Y⟩);go_end0;exact⟨rfl,hs,G.trans Y⟩
theorem wX{w1:World}{B k:Nat}(hw:Wrong w1)(ih:Told w1 B k)(L:List kD)(r:Option (List kD))(wc:World)(n:Nat)(D:n≤999)(h:St w1 B n L wc)(U:gd (k+1) .product L=some r):
    Calls Tryz.prog 149 #[.pointer (some ⟨B,0,none⟩)] wc (Ends w1 wc B n r):=by
  have G:Lib.OthersKept 118 (some B) wc (wc.alloc (.cells #[.int .i64 5] 3)):=iB ((Below.refl _ _).alloc (Nat.le_refl _) _);have I:=mk0 (yw (gd k .factor) 154 (enters_of Tryz.func154 (by kernel_rfl) rfl) [5] (B:=B) hw (fun L r wc n D hs ht=>ih .factor L r wc n D hs ht) k L r (wc.alloc (.cells #[.int .i64 5] 3)) n wc.heap.size D (by decide) (h.below ((Below.refl _ _).alloc (Nat.le_refl _) _)) (qF wc _) U);have X:=makes;clear U ih h;cases r with
  |none=>
    go_enter Tryz.func149,Tryz.ntmps149;go_wp2_with(go_at_call 83;refine I.out.mono ?_;rintro e w2⟨⟨T,p,rfl⟩,Z⟩);exact⟨rfl,⟨T,p,rfl⟩,Z⟩
  |some l=>
    go_enter Tryz.func149,Tryz.ntmps149;go_wp2_with(go_at_call 83;refine I.out.mono ?_;rintro e w2⟨rfl,hs,Y⟩);go_end0;exact⟨rfl,hs,G.trans Y⟩
theorem zM{w1:World}{B k:Nat}(hw:Wrong w1)(ih:Told w1 B k)(L:List kD)(r:Option (List kD))(wc:World)(n:Nat)(hn:n≤999)(h:St w1 B n L wc)(hr:gd (k+1) .one L=some r):
    Calls Tryz.prog 109 #[.pointer (some ⟨B,0,none⟩)] wc (Ends w1 wc B n r):=by
  unfold gd at hr;have HS:=mk0 h;have ak:=vv 14 h;cases h14:sees 14 L with
  |true=>
    rw[if_pos h14]at hr;rw[h14]at ak;have ab:=mk0 ak;obtain⟨x,l,rfl,hx,aq⟩:=uO h14;obtain⟨n',rfl⟩:=h.pos;have HT:=mk0 (fun w' (hs:St w1 B (n'+1) (x::l) w')=>tT 14 hw hs);rw[aq]at HT;have HI:=mk0 (fun w' (hs:St w1 B n' l w')=>ih .one l r w' n' (by omega) hs hr);clear h hr ak h14 hx aq ih;cases r with
    |none=>
      go_enter Tryz.func109,Tryz.ntmps109;go_wp2_with(first|(go_at_call 130;(with_reducible refine ab.out.mono ?_);rintro e w2⟨rfl,G⟩;have I:=mk0 (HS.out.below G))|(go_at_call 107;(with_reducible refine(HT.out w2 I.out).mono ?_);rintro e w3⟨rfl,an,au⟩;have X:=mk0 an;clear an au)|(go_at_call 109;(refine(HI.out w3 X.out).mono ?_);rintro e w4⟨⟨T,p,rfl⟩,aw⟩));exact⟨rfl,⟨T,p,rfl⟩,aw⟩
    |some l2=>
      go_enter Tryz.func109,Tryz.ntmps109;go_wp2_with(first|(go_at_call 130;(with_reducible refine ab.out.mono ?_);rintro e w2⟨rfl,G⟩;have I:=mk0 (HS.out.below G);have Z:=mk0 (iB (e:=118) (b:=some B) G))|(go_at_call 107;(with_reducible refine(HT.out w2 I.out).mono ?_);rintro e w3⟨rfl,an,au⟩;have X:=mk0 an;have af:=mk0 (Z.out.trans au);clear an au)|(go_at_call 109;(refine(HI.out w3 X.out).mono ?_);rintro e w4⟨rfl,D,Y⟩;have ae:=mk0 D;have am:=mk0 (af.out.trans Y);clear D Y)|(go_at_call 108;(with_reducible refine(kS 14 (by omega) ae.out).mono ?_);rintro e w5⟨rfl,ag,ai⟩;have ao:=mk0 ag;have az:=mk0 (am.out.trans ai);clear ag ai));(first|go_end0|refine bodyPost_ret (results_none rfl _ _ _) rfl ?_);exact⟨rfl,ao.out,az.out⟩
  |false=>
    rw[if_neg (by rw[h14];exact Bool.false_ne_true)]at hr;rw[h14]at ak;have ab:=mk0 ak;clear ak h14;have ar:=fun w' (hs:St w1 B n L w')=>vv 15 hs;cases h15:sees 15 L with
    |true=>
      rw[if_pos h15]at hr;obtain⟨x,l,rfl,hx,aq⟩:=uO h15;have aa:=mk0 ar;rw[h15]at aa;obtain⟨n',rfl⟩:=h.pos;have HT:=mk0 (fun w' (hs:St w1 B (n'+1) (x::l) w')=>tT 15 hw hs);rw[aq]at HT;clear h ar h15 hx aq;cases hg:gd k .guard l with
      |none=>rw[show gd k .guard ((x::l).drop 1)=none from hg]at hr;cases hr
      |some r1=>
        rw[show gd k .guard ((x::l).drop 1)=some r1 from hg]at hr;have HI:=mk0 (fun w' (hs:St w1 B n' l w')=>ih .guard l r1 w' n' (by omega) hs hg);clear hg ih;cases r1 with
        |none=>
          cases hr;go_enter Tryz.func109,Tryz.ntmps109;go_wp2_with(first|(go_at_call 130;first|((with_reducible refine ab.out.mono ?_);rintro e w2⟨rfl,G⟩;have I:=mk0 (HS.out.below G);have Z:=mk0 (iB (e:=118) (b:=some B) G))|((with_reducible refine(aa.out w2 I.out).mono ?_);rintro e w3⟨rfl,U⟩;have X:=mk0 (I.out.below U);have af:=mk0 (Z.out.trans (iB U))))|(go_at_call 107;(with_reducible refine(HT.out w3 X.out).mono ?_);rintro e w4⟨rfl,D,Y⟩;have ae:=mk0 D;clear D Y)|(go_at_call 61;(refine(HI.out w4 ae.out).mono ?_);rintro e w5⟨⟨T,p,rfl⟩,aK⟩));exact⟨rfl,⟨T,p,rfl⟩,aK⟩
        |some l2=>
          (have aD:pass 16 l2=r:=by cases hr;rfl);have ay:=mk0 (fun w' (hs:St w1 B (n'+1) l2 w')=>tT 16 hw hs);rw[aD]at ay;clear hr aD;cases r with
          |none=>
            go_enter Tryz.func109,Tryz.ntmps109;go_wp2_with(first|(go_at_call 130;first|((with_reducible refine ab.out.mono ?_);rintro e w2⟨rfl,G⟩;have I:=mk0 (HS.out.below G);have Z:=mk0 (iB (e:=118) (b:=some B) G))|((with_reducible refine(aa.out w2 I.out).mono ?_);rintro e w3⟨rfl,U⟩;have X:=mk0 (I.out.below U);have af:=mk0 (Z.out.trans (iB U))))|(go_at_call 107;first|((with_reducible refine(HT.out w3 X.out).mono ?_);rintro e w4⟨rfl,D,Y⟩;have ae:=mk0 D;clear D Y)|((with_reducible refine(ay.out w5 (ao.out.mono (Nat.le_succ _))).mono ?_);rintro e w6⟨⟨T,p,rfl⟩,aL⟩))|(go_at_call 61;(refine(HI.out w4 ae.out).mono ?_);rintro e w5⟨rfl,ag,ai⟩;have ao:=mk0 ag;clear ag ai));exact⟨rfl,⟨T,p,rfl⟩,aL⟩
          |some l3=>
            go_enter Tryz.func109,Tryz.ntmps109;go_wp2_with(first|(go_at_call 130;first|((with_reducible refine ab.out.mono ?_);rintro e w2⟨rfl,G⟩;have I:=mk0 (HS.out.below G);have Z:=mk0 (iB (e:=118) (b:=some B) G))|((with_reducible refine(aa.out w2 I.out).mono ?_);rintro e w3⟨rfl,U⟩;have X:=mk0 (I.out.below U);have af:=mk0 (Z.out.trans (iB U))))|(go_at_call 107;first|((with_reducible refine(HT.out w3 X.out).mono ?_);rintro e w4⟨rfl,D,Y⟩;have ae:=mk0 D;have am:=mk0 (af.out.trans Y);clear D Y)|((with_reducible refine(ay.out w5 (ao.out.mono (Nat.le_succ _))).mono ?_);rintro e w6⟨rfl,ah,aj⟩;have ap:=mk0 (ah.mono (Nat.le_succ _));have ax:=mk0 (az.out.trans aj);clear ah aj))|(go_at_call 61;(refine(HI.out w4 ae.out).mono ?_);rintro e w5⟨rfl,ag,ai⟩;have ao:=mk0 ag;have az:=mk0 (am.out.trans ai);clear ag ai));(first|go_end0|refine bodyPost_ret (results_none rfl _ _ _) rfl ?_);exact⟨rfl,ap.out,ax.out⟩
    |false=>
      rw[if_neg (by rw[h15];exact Bool.false_ne_true)]at hr;have aa:=mk0 ar;rw[h15]at aa;clear h ar h15;cases hg:gd k .sum L with
      |none=>rw[hg]at hr;cases hr
      |some r1=>
        rw[hg]at hr;have HI:=mk0 (fun w' (hs:St w1 B n L w')=>ih .sum L r1 w' n (by omega) hs hg);clear hg;cases r1 with
        |none=>
          cases hr;go_enter Tryz.func109,Tryz.ntmps109;go_wp2_with(first|(go_at_call 130;first|((with_reducible refine ab.out.mono ?_);rintro e w2⟨rfl,G⟩;have I:=mk0 (HS.out.below G);have Z:=mk0 (iB (e:=118) (b:=some B) G))|((with_reducible refine(aa.out w2 I.out).mono ?_);rintro e w3⟨rfl,U⟩;have X:=mk0 (I.out.below U);have af:=mk0 (Z.out.trans (iB U))))|(go_at_call 131;(refine(HI.out w3 X.out).mono ?_);rintro e w4⟨⟨T,p,rfl⟩,aw⟩));exact⟨rfl,⟨T,p,rfl⟩,aw⟩
        |some l2=>
          cases l2 with
          |nil=>
            cases hr;go_enter Tryz.func109,Tryz.ntmps109;go_wp2_with(first|(go_at_call 130;first|((with_reducible refine ab.out.mono ?_);rintro e w2⟨rfl,G⟩;have I:=mk0 (HS.out.below G);have Z:=mk0 (iB (e:=118) (b:=some B) G))|((with_reducible refine(aa.out w2 I.out).mono ?_);rintro e w3⟨rfl,U⟩;have X:=mk0 (I.out.below U);have af:=mk0 (Z.out.trans (iB U))))|(go_at_call 131;(refine(HI.out w3 X.out).mono ?_);rintro e w4⟨rfl,D,Y⟩;have ae:=mk0 D;obtain⟨T,p,hp⟩:=D.wrong hw;obtain⟨A,c,v,xs,h1,_,_,_,_,_,_⟩:=D;have c0:w4.cell? ⟨B,0,none⟩=some (.slice A ([]:List kD).length c):=iF h1.out 0;clear Y));exact⟨rfl,⟨T,p,rfl⟩,ae.out.old⟩
          |cons x l3=>
            have al:=mk0 (Ba x.f0);have aA:∀w':World,St w1 B n (x::l3) w'→∃(ad:Addr) (m c:Nat),((m:Int)==0)=false∧(0:Int)<(m:Int)∧0<m∧w'.cell? ⟨B,0,none⟩=some (.slice (some ad) m c)∧w'.cell? ad=some (.int .i64 x.f0):=fun w' hs=>hs.head;cases hc:compares x.f0 with
            |false=>
              have av:r=none:=by
                have e:(match(some (some (x::l3)):R)with|none=>none|some none=>some none|some (some [])=>some none|some (some (c::r))=>if compares c.f0=true then gd k .sum r else some none)=some none:=if_neg (by rw[hc];exact Bool.false_ne_true);exact Option.some.inj (hr.symm.trans e)
              subst av;rw[hc]at al;clear hr hc;go_enter Tryz.func109,Tryz.ntmps109;go_wp2_with(first|(go_at_call 130;first|((with_reducible refine ab.out.mono ?_);rintro e w2⟨rfl,G⟩;have I:=mk0 (HS.out.below G);have Z:=mk0 (iB (e:=118) (b:=some B) G))|((with_reducible refine(aa.out w2 I.out).mono ?_);rintro e w3⟨rfl,U⟩;have X:=mk0 (I.out.below U);have af:=mk0 (Z.out.trans (iB U))))|(go_at_call 131;(refine(HI.out w3 X.out).mono ?_);rintro e w4⟨rfl,D,Y⟩;have ae:=mk0 D;obtain⟨T,p,hp⟩:=D.wrong hw;obtain⟨ad,m,c,aH,hi,aC,c0,e2⟩:=aA w4 D;clear D Y)|(go_at_call 132;(with_reducible refine(al.out _).mono ?_);rintro e w5⟨rfl,rfl⟩));exact⟨rfl,⟨T,p,rfl⟩,ae.out.old⟩
            |true=>
              rw[hc]at al;have av:gd k .sum l3=some r:=by
                have e:(match(some (some (x::l3)):R)with|none=>none|some none=>some none|some (some [])=>some none|some (some (c::r))=>if compares c.f0=true then gd k .sum r else some none)=gd k .sum l3:=if_pos hc;exact e.symm.trans hr
              have HT:eD (∀n' w',St w1 B (n'+1) (x::l3) w'→Calls Tryz.prog 107 #[.pointer (some ⟨B,0,none⟩), .int .i64 x.f0] w' (Ends w1 w' B n' (some l3))):=⟨fun n' w' hs=>by
                have h:=tT x.f0 hw hs
                rw[show pass x.f0 (x::l3)=some l3 from if_pos rfl]at h
                exact h⟩
              have HJ:=mk0 (fun n' w' (hn:n'+1≤999) (hs:St w1 B n' l3 w')=>ih .sum l3 r w' n' (by omega) hs av);clear hr hc av ih;cases r with
              |none=>
                go_enter Tryz.func109,Tryz.ntmps109;go_wp2_with(first|(go_at_call 130;first|((with_reducible refine ab.out.mono ?_);rintro e w2⟨rfl,G⟩;have I:=mk0 (HS.out.below G);have Z:=mk0 (iB (e:=118) (b:=some B) G))|((with_reducible refine(aa.out w2 I.out).mono ?_);rintro e w3⟨rfl,U⟩;have X:=mk0 (I.out.below U);have af:=mk0 (Z.out.trans (iB U))))|(go_at_call 131;first|((refine(HI.out w3 X.out).mono ?_);rintro e w4⟨rfl,D,Y⟩;obtain⟨n',rfl⟩:=D.pos;have ae:=mk0 D;obtain⟨ad,m,c,aH,hi,aC,c0,e2⟩:=aA w4 D;clear D Y)|((refine(HJ.out n' w6 hn ap.out).mono ?_);rintro e w7⟨⟨T,p,rfl⟩,aN⟩))|(go_at_call 132;(with_reducible refine(al.out _).mono ?_);rintro e w5⟨rfl,rfl⟩)|(go_at_call 107;(with_reducible refine(HT.out n' w5 ae.out).mono ?_);rintro e w6⟨rfl,ah,aj⟩;have ap:=mk0 ah;clear ah aj));exact⟨rfl,⟨T,p,rfl⟩,aN⟩
              |some l4=>
                go_enter Tryz.func109,Tryz.ntmps109;go_wp2_with(first|(go_at_call 130;first|((with_reducible refine ab.out.mono ?_);rintro e w2⟨rfl,G⟩;have I:=mk0 (HS.out.below G);have Z:=mk0 (iB (e:=118) (b:=some B) G))|((with_reducible refine(aa.out w2 I.out).mono ?_);rintro e w3⟨rfl,U⟩;have X:=mk0 (I.out.below U);have af:=mk0 (Z.out.trans (iB U))))|(go_at_call 131;first|((refine(HI.out w3 X.out).mono ?_);rintro e w4⟨rfl,D,Y⟩;obtain⟨n',rfl⟩:=D.pos;have ae:=mk0 D;have am:=mk0 (af.out.trans Y);obtain⟨ad,m,c,aH,hi,aC,c0,e2⟩:=aA w4 D;clear D Y)|((refine(HJ.out n' w6 hn ap.out).mono ?_);rintro e w7⟨rfl,aB,aG⟩;have aM:=mk0 aB;have aI:=mk0 (ax.out.trans aG);clear aB aG))|(go_at_call 132;(with_reducible refine(al.out _).mono ?_);rintro e w5⟨rfl,rfl⟩)|(go_at_call 107;(with_reducible refine(HT.out n' w5 ae.out).mono ?_);rintro e w6⟨rfl,ah,aj⟩;have ap:=mk0 ah;have ax:=mk0 (am.out.trans aj);clear ah aj)|(go_at_call 108;(with_reducible refine(kS x.f0 (by omega) aM.out).mono ?_);rintro e w8⟨rfl,aE,aF⟩;have aO:=mk0 aE;have aJ:=mk0 (aI.out.trans aF);clear aE aF));go_end0;exact⟨rfl,aO.out,aJ.out⟩
theorem xE{w1:World}{B k:Nat}(hw:Wrong w1)(ih:Told w1 B k)(L:List kD)(r:Option (List kD))(wc:World)(n:Nat)(hn:n≤999)(h:St w1 B n L wc)(hr:gd (k+1) .factor L=some r):
    Calls Tryz.prog 154 #[.pointer (some ⟨B,0,none⟩)] wc (Ends w1 wc B n r):=by
  unfold gd at hr;have HS:=mk0 h;have S1:=vv 1 h;have ak:=mk0 S1;have al:=mk0 (fun w' (hs:St w1 B n L w')=>vv 2 hs);have aa:=mk0 (fun w' (hs:St w1 B n L w')=>vv 4 hs);clear S1;cases h12:(sees 1 L||sees 2 L)with
  |true=>
    rw[if_pos h12]at hr;obtain⟨x,l,rfl⟩:∃x l,L=x::l:=by
      cases L with
      |nil=>cases h12
      |cons x l=>exact⟨x,l,rfl⟩
    cases hr;obtain⟨n',rfl⟩:=h.pos;clear h aa;go_enter Tryz.func154,Tryz.ntmps154;cases h1:sees 1 (x::l)with
    |true=>
      rw[h1]at ak;clear h12 h1 al;go_wp2_with(go_at_call 130;(with_reducible refine ak.out.mono ?_);rintro e w2⟨rfl,G⟩;have am:=mk0 (HS.out.below G);have Y:=mk0 (iB (e:=118) (b:=some B) G);obtain⟨A,c,v,xs,h1,h2,h3,h4,h5,h6,h7⟩:=am.out;obtain⟨ad,rfl,e0,e1⟩:=wH (Kd.iT h3.out h7.out) 0 (by omega) (by rw[List.length_cons];omega));have aM:=mk0 (Kd.sH h4.out h1.out (by decide));have I:=am.out.below (eZ (Below.refl _ _));have HX:=mk0 (Kd.qG h4.out);have HY:=mk0 (eZ h7.out);have b1:=mk0 (vK h1.out);(have aT:xs.length≤1000:=by have:=h5.out;omega);have aL:w1.heap.size≤w2.drew.heap.size:=kN HY.out;(obtain⟨m,hm⟩:∃m,(x::l).length=m:=⟨_,rfl⟩);(have hi:(0:Int)<(m:Int):=by rw[←hm,List.length_cons];omega);(have aF:0<m:=by rw[←hm,List.length_cons];omega);have hx:wI (x::l) 0=x:=rfl;(have q0:w2.drew.cell? ⟨B,0,none⟩=some (.slice (some ad) m c):=by rw[←hm];exact iF b1.out 0);have q1:w2.drew.cell? ⟨B,1,none⟩=some v:=iF b1.out 1;obtain⟨aZ,aE,d0,d1⟩:=wH (Kd.iT h3.out HY.out) 0 (by omega) (by rw[List.length_cons];omega);cases aE;rw[hx]at d0 d1;have d2:w2.drew.cell? ad=some (.int .i64 x.f0):=d0;have d3:w2.drew.cell? ⟨ad.block,ad.off+1,none⟩=some (.int .i64 x.f1):=d1;have q2:(w2.alloc (.cells #[.int .i64 x.f0, .int .i64 x.f1] 118)).cell? ⟨B,1,none⟩=some v:=iF (sG h1.out _) 1;clear e0 e1 d0 d1 hx;have HM:=mk0 hm;clear hm;go_region_law (first|((refine Kd.vC tq (w0:=w1) (W:=w2.drew) w1.heap.size rfl (.tmp 17) (.tmp 24) 71 118 (.agg #[(.int .i64 0),(.int .i64 0)]) 16 rfl Tryz.underlying71 uG rfl (by decide) (by omega) v xs x [.int .i64 x.f0, .int .i64 x.f1] (fun _=>True) (fun _=>False) (by simp[Act.eval,Act.put]) (by simp[Act.eval,Act.put]) (tF _ _ _ x) (fun _ hk=>hk.elim) (fun _ _=>trivial) HX.out HY.out aL (by omega) ?_);intro v1 Z ho hb hg aV;obtain⟨A3,c3,rfl⟩:=Kd.qw ho;have az:eD (tq.R 118 Z w1.heap.size (fun _=>True) (.slice A3 (xs.length+1) c3) (xs++[x])):=⟨by rw[List.length_append,List.length_singleton]at ho;exact ho⟩;have aC:=mk0 hb;have av:=mk0 (Lib.OthersKept.grown (Lib.OthersKept.refl 118 (some B) w2.drew) hg (fun g aK=>by obtain⟨cells,hc⟩:=Kd.uE HX.out g aK;exact⟨cells,_,hc⟩));have af:=mk0 (qD b1.out hg aM.out);have aG:Z.cell? ⟨B,1,none⟩=some v:=iF af.out 1;have aQ:Z.frozen? ⟨B,1,none⟩=false:=iP af.out 1)|go_simp)
      all_goals
        have ag:(Z.setCell ⟨B,1,none⟩ (.slice A3 (xs.length+1) c3)).heap[B]?=some (.cells #[.slice (some ad) (x::l).length c, .slice A3 (xs.length+1) c3] 87 (0,0)):=eY af.out 1 _ rfl
        have aa:St w1 B (n'+1+1) (x::l) (Z.setCell ⟨B,1,none⟩ (.slice A3 (xs.length+1) c3)):=⟨some ad,c,_,xs++[x],⟨ag⟩,h2,h3,⟨Kd.wL az.out af.out za 1 _⟩,⟨by have:=h5.out;rw[List.length_append,List.length_singleton];omega⟩,h6,⟨kr aC.out h6.out⟩⟩
        have ax:=mk0 ag
        have aA:=mk0 aa
        have aj:eD (Lib.OthersKept 118 (some B) wc (Z.setCell ⟨B,1,none⟩ (.slice A3 (xs.length+1) c3))):=⟨Lib.OthersKept.setCell (Y.out.trans av.out) ⟨B,1,none⟩ rfl _⟩
        have aH:(Z.setCell ⟨B,1,none⟩ (.slice A3 (xs.length+1) c3)).cell? ⟨B,0,none⟩=some (.slice (some ad) (l.length+1) c):=iF ag 0
        have aO:(Z.setCell ⟨B,1,none⟩ (.slice A3 (xs.length+1) c3)).frozen? ⟨B,0,none⟩=false:=iP ag 0
        obtain⟨w4,au⟩:∃w4,Z.setCell ⟨B,1,none⟩ (.slice A3 (xs.length+1) c3)=w4:=⟨_,rfl⟩
        rw[au]at aH aO aj aA ax⊢
        have aP:=h2.out
        rw[List.length_cons]at aP
        clear ag aa aG aQ af az aC av q0 q1 q2 d2 d3 HX HY b1 h1 h2 h3 h4 h5 h7 au hi aF
        go_wp2
        all_goals go_end0
      all_goals(have e:=St.drop aA.out ax.out;first|(rw[if_neg h]at e;exact⟨rfl,e,Lib.OthersKept.setCell aj.out ⟨B,0,none⟩ rfl _⟩)|(subst h;exact⟨rfl,e,Lib.OthersKept.setCell aj.out ⟨B,0,none⟩ rfl _⟩))
    |false=>
      rw[h1]at ak;(have aU:sees 2 (x::l)=true:=by rw[h1]at h12;exact h12);rw[aU]at al;clear h12 h1 aU;go_wp2_with(go_at_call 130;first|((with_reducible refine ak.out.mono ?_);rintro e wa⟨rfl,hba⟩;have aS:=mk0 (HS.out.below hba);have aX:=mk0 (iB (e:=118) (b:=some B) hba))|((with_reducible refine(al.out wa aS.out).mono ?_);rintro e w2⟨rfl,G⟩;have am:=mk0 (aS.out.below G);have Y:=mk0 (aX.out.trans (iB (e:=118) (b:=some B) G));obtain⟨A,c,v,xs,h1,h2,h3,h4,h5,h6,h7⟩:=am.out;obtain⟨ad,rfl,e0,e1⟩:=wH (Kd.iT h3.out h7.out) 0 (by omega) (by rw[List.length_cons];omega)));have aM:=mk0 (Kd.sH h4.out h1.out (by decide));have I:=am.out.below (eZ (Below.refl _ _));have HX:=mk0 (Kd.qG h4.out);have HY:=mk0 (eZ h7.out);have b1:=mk0 (vK h1.out);(have aT:xs.length≤1000:=by have:=h5.out;omega);have aL:w1.heap.size≤w2.drew.heap.size:=kN HY.out;(obtain⟨m,hm⟩:∃m,(x::l).length=m:=⟨_,rfl⟩);(have hi:(0:Int)<(m:Int):=by rw[←hm,List.length_cons];omega);(have aF:0<m:=by rw[←hm,List.length_cons];omega);have hx:wI (x::l) 0=x:=rfl;(have q0:w2.drew.cell? ⟨B,0,none⟩=some (.slice (some ad) m c):=by rw[←hm];exact iF b1.out 0);have q1:w2.drew.cell? ⟨B,1,none⟩=some v:=iF b1.out 1;obtain⟨aZ,aE,d0,d1⟩:=wH (Kd.iT h3.out HY.out) 0 (by omega) (by rw[List.length_cons];omega);cases aE;rw[hx]at d0 d1;have d2:w2.drew.cell? ad=some (.int .i64 x.f0):=d0;have d3:w2.drew.cell? ⟨ad.block,ad.off+1,none⟩=some (.int .i64 x.f1):=d1;have q2:(w2.alloc (.cells #[.int .i64 x.f0, .int .i64 x.f1] 118)).cell? ⟨B,1,none⟩=some v:=iF (sG h1.out _) 1;clear e0 e1 d0 d1 hx;have HM:=mk0 hm;clear hm;go_region_law (first|((refine Kd.vC tq (w0:=w1) (W:=w2.drew) w1.heap.size rfl (.tmp 17) (.tmp 24) 71 118 (.agg #[(.int .i64 0),(.int .i64 0)]) 16 rfl Tryz.underlying71 uG rfl (by decide) (by omega) v xs x [.int .i64 x.f0, .int .i64 x.f1] (fun _=>True) (fun _=>False) (by simp[Act.eval,Act.put]) (by simp[Act.eval,Act.put]) (tF _ _ _ x) (fun _ hk=>hk.elim) (fun _ _=>trivial) HX.out HY.out aL (by omega) ?_);intro v1 Z ho hb hg aV;obtain⟨A3,c3,rfl⟩:=Kd.qw ho;have az:eD (tq.R 118 Z w1.heap.size (fun _=>True) (.slice A3 (xs.length+1) c3) (xs++[x])):=⟨by rw[List.length_append,List.length_singleton]at ho;exact ho⟩;have aC:=mk0 hb;have av:=mk0 (Lib.OthersKept.grown (Lib.OthersKept.refl 118 (some B) w2.drew) hg (fun g aK=>by obtain⟨cells,hc⟩:=Kd.uE HX.out g aK;exact⟨cells,_,hc⟩));have af:=mk0 (qD b1.out hg aM.out);have aG:Z.cell? ⟨B,1,none⟩=some v:=iF af.out 1;have aQ:Z.frozen? ⟨B,1,none⟩=false:=iP af.out 1)|go_simp)
      all_goals
        have ag:(Z.setCell ⟨B,1,none⟩ (.slice A3 (xs.length+1) c3)).heap[B]?=some (.cells #[.slice (some ad) (x::l).length c, .slice A3 (xs.length+1) c3] 87 (0,0)):=eY af.out 1 _ rfl
        have aa:St w1 B (n'+1+1) (x::l) (Z.setCell ⟨B,1,none⟩ (.slice A3 (xs.length+1) c3)):=⟨some ad,c,_,xs++[x],⟨ag⟩,h2,h3,⟨Kd.wL az.out af.out za 1 _⟩,⟨by have:=h5.out;rw[List.length_append,List.length_singleton];omega⟩,h6,⟨kr aC.out h6.out⟩⟩
        have ax:=mk0 ag
        have aA:=mk0 aa
        have aj:eD (Lib.OthersKept 118 (some B) wc (Z.setCell ⟨B,1,none⟩ (.slice A3 (xs.length+1) c3))):=⟨Lib.OthersKept.setCell (Y.out.trans av.out) ⟨B,1,none⟩ rfl _⟩
        have aH:(Z.setCell ⟨B,1,none⟩ (.slice A3 (xs.length+1) c3)).cell? ⟨B,0,none⟩=some (.slice (some ad) (l.length+1) c):=iF ag 0
        have aO:(Z.setCell ⟨B,1,none⟩ (.slice A3 (xs.length+1) c3)).frozen? ⟨B,0,none⟩=false:=iP ag 0
        obtain⟨w4,au⟩:∃w4,Z.setCell ⟨B,1,none⟩ (.slice A3 (xs.length+1) c3)=w4:=⟨_,rfl⟩
        rw[au]at aH aO aj aA ax⊢
        have aP:=h2.out
        rw[List.length_cons]at aP
        clear ag aa aG aQ af az aC av q0 q1 q2 d2 d3 HX HY b1 h1 h2 h3 h4 h5 h7 au hi aF
        go_wp2
        all_goals go_end0
      all_goals(have e:=St.drop aA.out ax.out;first|(rw[if_neg h]at e;exact⟨rfl,e,Lib.OthersKept.setCell aj.out ⟨B,0,none⟩ rfl _⟩)|(subst h;exact⟨rfl,e,Lib.OthersKept.setCell aj.out ⟨B,0,none⟩ rfl _⟩))
  |false=>
    rw[if_neg (by rw[h12];exact Bool.false_ne_true)]at hr;(have h1:sees 1 L=false:=by cases h:sees 1 L with|false=>rfl|true=>rw[h]at h12;cases h12);(have h2:sees 2 L=false:=by cases h:sees 2 L with|false=>rfl|true=>rw[h,Bool.or_true]at h12;cases h12);rw[h1]at ak;rw[h2]at al;clear h12 h1 h2;cases h4:sees 4 L with
    |true=>
      rw[if_pos h4]at hr;rw[h4]at aa;obtain⟨x,l,rfl,hx,aB⟩:=uO h4;obtain⟨n',rfl⟩:=h.pos;have HT:=mk0 (fun w' (hs:St w1 B (n'+1) (x::l) w')=>tT 4 hw hs);rw[aB]at HT;have HI:=mk0 (fun w' (hs:St w1 B n' l w')=>ih .factor l r w' n' (by omega) hs hr);clear h hr h4 hx aB ih;cases r with
      |none=>
        go_enter Tryz.func154,Tryz.ntmps154;go_wp2_with(first|(go_at_call 130;first|((with_reducible refine ak.out.mono ?_);rintro e w2⟨rfl,G⟩;have D:=mk0 (HS.out.below G);have Y:=mk0 (iB (e:=118) (b:=some B) G))|((with_reducible refine(al.out w2 D.out).mono ?_);rintro e Z⟨rfl,X⟩;have I:=mk0 (D.out.below X);have ah:=mk0 (Y.out.trans (iB X)))|((with_reducible refine(aa.out Z I.out).mono ?_);rintro e w4⟨rfl,U⟩;have ai:=mk0 (I.out.below U);have ap:=mk0 (ah.out.trans (iB U))))|(go_at_call 107;(with_reducible refine(HT.out w4 ai.out).mono ?_);rintro e w5⟨rfl,ab,ae⟩;have an:=mk0 ab;clear ab ae)|(go_at_call 154;(refine(HI.out w5 an.out).mono ?_);rintro e w6⟨⟨T,p,rfl⟩,aJ⟩));exact⟨rfl,⟨T,p,rfl⟩,aJ⟩
      |some l2=>
        go_enter Tryz.func154,Tryz.ntmps154;go_wp2_with(first|(go_at_call 130;first|((with_reducible refine ak.out.mono ?_);rintro e w2⟨rfl,G⟩;have D:=mk0 (HS.out.below G);have Y:=mk0 (iB (e:=118) (b:=some B) G))|((with_reducible refine(al.out w2 D.out).mono ?_);rintro e Z⟨rfl,X⟩;have I:=mk0 (D.out.below X);have ah:=mk0 (Y.out.trans (iB X)))|((with_reducible refine(aa.out Z I.out).mono ?_);rintro e w4⟨rfl,U⟩;have ai:=mk0 (I.out.below U);have ap:=mk0 (ah.out.trans (iB U))))|(go_at_call 107;(with_reducible refine(HT.out w4 ai.out).mono ?_);rintro e w5⟨rfl,ab,ae⟩;have an:=mk0 ab;have aj:=mk0 (ap.out.trans ae);clear ab ae)|(go_at_call 154;(refine(HI.out w5 an.out).mono ?_);rintro e w6⟨rfl,ao,aq⟩;have aw:=mk0 ao;have aI:=mk0 (aj.out.trans aq);clear ao aq)|(go_at_call 108;(with_reducible refine(kS 19 (by omega) aw.out).mono ?_);rintro e w7⟨rfl,ar,ay⟩;have aN:=mk0 ar;have aD:=mk0 (aI.out.trans ay);clear ar ay));go_end0;exact⟨rfl,aN.out,aD.out⟩
    |false=>
      rw[if_neg (by rw[h4];exact Bool.false_ne_true)]at hr;rw[h4]at aa;clear h4;cases h17:sees 17 L with
      |false=>
        rw[if_neg (by rw[h17];exact Bool.false_ne_true)]at hr;cases hr;have HT:=mk0 (fun w' (hs:St w1 B (n+1) L w')=>tT 17 hw hs);rw[Ct h17]at HT;clear h h17 ih;go_enter Tryz.func154,Tryz.ntmps154;go_wp2_with(first|(go_at_call 130;first|((with_reducible refine ak.out.mono ?_);rintro e w2⟨rfl,G⟩;have D:=mk0 (HS.out.below G);have Y:=mk0 (iB (e:=118) (b:=some B) G))|((with_reducible refine(al.out w2 D.out).mono ?_);rintro e Z⟨rfl,X⟩;have I:=mk0 (D.out.below X);have ah:=mk0 (Y.out.trans (iB X)))|((with_reducible refine(aa.out Z I.out).mono ?_);rintro e w4⟨rfl,U⟩;have ai:=mk0 (I.out.below U);have ap:=mk0 (ah.out.trans (iB U))))|(go_at_call 107;(with_reducible refine(HT.out w4 (ai.out.mono (Nat.le_succ _))).mono ?_);rintro e w5⟨⟨T,p,rfl⟩,aW⟩));exact⟨rfl,⟨T,p,rfl⟩,aW⟩
      |true=>
        rw[if_pos h17]at hr;obtain⟨x,l,rfl,hx,aB⟩:=uO h17;obtain⟨n',rfl⟩:=h.pos;have HT:=mk0 (fun w' (hs:St w1 B (n'+1) (x::l) w')=>tT 17 hw hs);rw[aB]at HT;clear h h17 hx aB;cases hg:gd k .sum l with
        |none=>rw[show gd k .sum ((x::l).drop 1)=none from hg]at hr;cases hr
        |some r1=>
          rw[show gd k .sum ((x::l).drop 1)=some r1 from hg]at hr;have HI:=mk0 (fun w' (hs:St w1 B n' l w')=>ih .sum l r1 w' n' (by omega) hs hg);clear hg ih;cases r1 with
          |none=>
            cases hr;go_enter Tryz.func154,Tryz.ntmps154;go_wp2_with(first|(go_at_call 130;first|((with_reducible refine ak.out.mono ?_);rintro e w2⟨rfl,G⟩;have D:=mk0 (HS.out.below G);have Y:=mk0 (iB (e:=118) (b:=some B) G))|((with_reducible refine(al.out w2 D.out).mono ?_);rintro e Z⟨rfl,X⟩;have I:=mk0 (D.out.below X);have ah:=mk0 (Y.out.trans (iB X)))|((with_reducible refine(aa.out Z I.out).mono ?_);rintro e w4⟨rfl,U⟩;have ai:=mk0 (I.out.below U);have ap:=mk0 (ah.out.trans (iB U))))|(go_at_call 107;(with_reducible refine(HT.out w4 ai.out).mono ?_);rintro e w5⟨rfl,ab,ae⟩;have an:=mk0 ab;clear ab ae)|(go_at_call 131;(refine(HI.out w5 an.out).mono ?_);rintro e w6⟨⟨T,p,rfl⟩,aJ⟩));exact⟨rfl,⟨T,p,rfl⟩,aJ⟩
          |some l2=>
            (have aR:pass 18 l2=r:=by cases hr;rfl);have am:=mk0 (fun w' (hs:St w1 B (n'+1) l2 w')=>tT 18 hw hs);rw[aR]at am;clear hr aR;cases r with
            |none=>
              go_enter Tryz.func154,Tryz.ntmps154;go_wp2_with(first|(go_at_call 130;first|((with_reducible refine ak.out.mono ?_);rintro e w2⟨rfl,G⟩;have D:=mk0 (HS.out.below G);have Y:=mk0 (iB (e:=118) (b:=some B) G))|((with_reducible refine(al.out w2 D.out).mono ?_);rintro e Z⟨rfl,X⟩;have I:=mk0 (D.out.below X);have ah:=mk0 (Y.out.trans (iB X)))|((with_reducible refine(aa.out Z I.out).mono ?_);rintro e w4⟨rfl,U⟩;have ai:=mk0 (I.out.below U);have ap:=mk0 (ah.out.trans (iB U))))|(go_at_call 107;first|((with_reducible refine(HT.out w4 ai.out).mono ?_);rintro e w5⟨rfl,ab,ae⟩;have an:=mk0 ab;clear ab ae)|((with_reducible refine(am.out w6 (aw.out.mono (Nat.le_succ _))).mono ?_);rintro e w7⟨⟨T,p,rfl⟩,aY⟩))|(go_at_call 131;(refine(HI.out w5 an.out).mono ?_);rintro e w6⟨rfl,ao,aq⟩;have aw:=mk0 ao;clear ao aq));exact⟨rfl,⟨T,p,rfl⟩,aY⟩
            |some l3=>
              go_enter Tryz.func154,Tryz.ntmps154;go_wp2_with(first|(go_at_call 130;first|((with_reducible refine ak.out.mono ?_);rintro e w2⟨rfl,G⟩;have D:=mk0 (HS.out.below G);have Y:=mk0 (iB (e:=118) (b:=some B) G))|((with_reducible refine(al.out w2 D.out).mono ?_);rintro e Z⟨rfl,X⟩;have I:=mk0 (D.out.below X);have ah:=mk0 (Y.out.trans (iB X)))|((with_reducible refine(aa.out Z I.out).mono ?_);rintro e w4⟨rfl,U⟩;have ai:=mk0 (I.out.below U);have ap:=mk0 (ah.out.trans (iB U))))|(go_at_call 107;first|((with_reducible refine(HT.out w4 ai.out).mono ?_);rintro e w5⟨rfl,ab,ae⟩;have an:=mk0 ab;have aj:=mk0 (ap.out.trans ae);clear ab ae)|((with_reducible refine(am.out w6 (aw.out.mono (Nat.le_succ _))).mono ?_);rintro e w7⟨rfl,ar,ay⟩;have aN:=mk0 (ar.mono (Nat.le_succ _));have aD:=mk0 (aI.out.trans ay);clear ar ay))|(go_at_call 131;(refine(HI.out w5 an.out).mono ?_);rintro e w6⟨rfl,ao,aq⟩;have aw:=mk0 ao;have aI:=mk0 (aj.out.trans aq);clear ao aq));go_end0;exact⟨rfl,aN.out,aD.out⟩
theorem told{w1:World}{B:Nat}(I:Wrong w1):∀k,Told w1 B k:=by
  intro k
  induction k with
  |zero=>intro U L r wc n G h D;cases D
  |succ k ih=>
    intro U L r wc n G h D;cases U with
    |guard=>exact yc I ih L r wc n G h D
    |some=>exact yM I ih L r wc n G h D
    |one=>exact zM I ih L r wc n G h D
    |sum=>exact zG I ih L r wc n G h D
    |product=>exact wX I ih L r wc n G h D
    |factor=>exact xE I ih L r wc n G h D
end Go.Proofs.Gd
