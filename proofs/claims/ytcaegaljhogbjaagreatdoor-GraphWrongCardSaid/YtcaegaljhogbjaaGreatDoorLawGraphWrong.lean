/- What the rows of this seat list: a world that holds it (for the witness), and what the walks take of it: the table of powers of ten. -/
import Derived.Test.YtcaegaljhogbjaaGreatDoorRows
import Derived.Deep.DeepHandedRow
import Derived.Deep.DeepWitnessRowRef
import Derived.Lib.LaidIn
import Derived.Lib.LaidTab
import Derived.Stop.LaidErr
import Derived.Stop.Texts
import Derived.Stop.ErrReads
import Derived.Test.YtcaegaljhogbjaaGreatDoorCards
import Derived.Test.YtcaegaljhogbjaaGreatDoorTie
import Derived.ShutString
import Derived.ChangeOld
import Derived.SizedLaws
import Derived.Test.YtcaegaljhogbjaaGreatDoorPureGraphWrong
set_option linter.unusedVariables false
namespace Go.Proofs.YtcaegaljhogbjaaGreatDoor.Laid
open ChangeShapes WideShapes ChangeAt RowKit
open ChangeMaps (open_string shut_string)
theorem own:ownKnob Tryz.prog.godebug=none:=by kernel_rfl
noncomputable def yA(D:Os):World:=
  let N:=(World.settled Tryz.prog D).heap.size
  let w0:=World.holding Tryz.prog D ⟨#[.cells #[.string ⟨#[118,97,108,117,101,32,111,117,116,32,111,102,32,114,97,110,103,101]⟩] 179, .cells #[.string ⟨#[105,110,118,97,108,105,100,32,115,121,110,116,97,120]⟩] 179, .cells #[.string ⟨#[110,111,32,103,117,97,114,100]⟩] 179],#[],[]⟩
  let put (h:Array Obj) (g:Nat) (cs:Array Value):Array Obj:=h.modify g fun
    | .cells _ t frozen=> .cells cs t frozen
    |o=>o
  let h0:=put w0.heap 7 #[.int .u8 0, .int .u8 1, .int .u8 28, .int .u8 2, .int .u8 29, .int .u8 14, .int .u8 24, .int .u8 3, .int .u8 30, .int .u8 22, .int .u8 20, .int .u8 15, .int .u8 25, .int .u8 17, .int .u8 4, .int .u8 8, .int .u8 31, .int .u8 27, .int .u8 13, .int .u8 23, .int .u8 21, .int .u8 19, .int .u8 16, .int .u8 7, .int .u8 26, .int .u8 12, .int .u8 18, .int .u8 6, .int .u8 11, .int .u8 5, .int .u8 10, .int .u8 9]
  let h1:=put h0 8 #[.int .u8 0, .int .u8 1, .int .u8 56, .int .u8 2, .int .u8 57, .int .u8 49, .int .u8 28, .int .u8 3, .int .u8 61, .int .u8 58, .int .u8 42, .int .u8 50, .int .u8 38, .int .u8 29, .int .u8 17, .int .u8 4, .int .u8 62, .int .u8 47, .int .u8 59, .int .u8 36, .int .u8 45, .int .u8 43, .int .u8 51, .int .u8 22, .int .u8 53, .int .u8 39, .int .u8 33, .int .u8 30, .int .u8 24, .int .u8 18, .int .u8 12, .int .u8 5, .int .u8 63, .int .u8 55, .int .u8 48, .int .u8 27, .int .u8 60, .int .u8 41, .int .u8 37, .int .u8 16, .int .u8 46, .int .u8 35, .int .u8 44, .int .u8 21, .int .u8 52, .int .u8 32, .int .u8 23, .int .u8 11, .int .u8 54, .int .u8 26, .int .u8 40, .int .u8 15, .int .u8 34, .int .u8 20, .int .u8 31, .int .u8 10, .int .u8 25, .int .u8 14, .int .u8 19, .int .u8 9, .int .u8 13, .int .u8 8, .int .u8 7, .int .u8 6]
  let h2:=put h1 6 #[.int .u64 1, .int .u64 10, .int .u64 100, .int .u64 1000, .int .u64 10000, .int .u64 100000, .int .u64 1000000, .int .u64 10000000, .int .u64 100000000, .int .u64 1000000000, .int .u64 10000000000, .int .u64 100000000000, .int .u64 1000000000000, .int .u64 10000000000000, .int .u64 100000000000000, .int .u64 1000000000000000, .int .u64 10000000000000000, .int .u64 100000000000000000, .int .u64 1000000000000000000, .int .u64 10000000000000000000]
  let h3:=put h2 5 #[.int .u8 128, .int .u8 191, .int .u8 160, .int .u8 191, .int .u8 128, .int .u8 159, .int .u8 144, .int .u8 191, .int .u8 128, .int .u8 143, .int .u8 0, .int .u8 0, .int .u8 0, .int .u8 0, .int .u8 0, .int .u8 0, .int .u8 0, .int .u8 0, .int .u8 0, .int .u8 0, .int .u8 0, .int .u8 0, .int .u8 0, .int .u8 0, .int .u8 0, .int .u8 0, .int .u8 0, .int .u8 0, .int .u8 0, .int .u8 0, .int .u8 0, .int .u8 0]
  let h4:=put h3 3 #[.iface 177 (.pointer (some ⟨N+0,0,none⟩))]
  let h5:=put h4 2 #[.iface 177 (.pointer (some ⟨N+1,0,none⟩))]
  let h6:=put h5 0 #[.iface 177 (.pointer (some ⟨N+2,0,none⟩))]
  let h7:=put h6 4 #[.int .u8 240, .int .u8 240, .int .u8 240, .int .u8 240, .int .u8 240, .int .u8 240, .int .u8 240, .int .u8 240, .int .u8 240, .int .u8 240, .int .u8 240, .int .u8 240, .int .u8 240, .int .u8 240, .int .u8 240, .int .u8 240, .int .u8 240, .int .u8 240, .int .u8 240, .int .u8 240, .int .u8 240, .int .u8 240, .int .u8 240, .int .u8 240, .int .u8 240, .int .u8 240, .int .u8 240, .int .u8 240, .int .u8 240, .int .u8 240, .int .u8 240, .int .u8 240, .int .u8 240, .int .u8 240, .int .u8 240, .int .u8 240, .int .u8 240, .int .u8 240, .int .u8 240, .int .u8 240, .int .u8 240, .int .u8 240, .int .u8 240, .int .u8 240, .int .u8 240, .int .u8 240, .int .u8 240, .int .u8 240, .int .u8 240, .int .u8 240, .int .u8 240, .int .u8 240, .int .u8 240, .int .u8 240, .int .u8 240, .int .u8 240, .int .u8 240, .int .u8 240, .int .u8 240, .int .u8 240, .int .u8 240, .int .u8 240, .int .u8 240, .int .u8 240, .int .u8 240, .int .u8 240, .int .u8 240, .int .u8 240, .int .u8 240, .int .u8 240, .int .u8 240, .int .u8 240, .int .u8 240, .int .u8 240, .int .u8 240, .int .u8 240, .int .u8 240, .int .u8 240, .int .u8 240, .int .u8 240, .int .u8 240, .int .u8 240, .int .u8 240, .int .u8 240, .int .u8 240, .int .u8 240, .int .u8 240, .int .u8 240, .int .u8 240, .int .u8 240, .int .u8 240, .int .u8 240, .int .u8 240, .int .u8 240, .int .u8 240, .int .u8 240, .int .u8 240, .int .u8 240, .int .u8 240, .int .u8 240, .int .u8 240, .int .u8 240, .int .u8 240, .int .u8 240, .int .u8 240, .int .u8 240, .int .u8 240, .int .u8 240, .int .u8 240, .int .u8 240, .int .u8 240, .int .u8 240, .int .u8 240, .int .u8 240, .int .u8 240, .int .u8 240, .int .u8 240, .int .u8 240, .int .u8 240, .int .u8 240, .int .u8 240, .int .u8 240, .int .u8 240, .int .u8 240, .int .u8 240, .int .u8 240, .int .u8 240, .int .u8 240, .int .u8 241, .int .u8 241, .int .u8 241, .int .u8 241, .int .u8 241, .int .u8 241, .int .u8 241, .int .u8 241, .int .u8 241, .int .u8 241, .int .u8 241, .int .u8 241, .int .u8 241, .int .u8 241, .int .u8 241, .int .u8 241, .int .u8 241, .int .u8 241, .int .u8 241, .int .u8 241, .int .u8 241, .int .u8 241, .int .u8 241, .int .u8 241, .int .u8 241, .int .u8 241, .int .u8 241, .int .u8 241, .int .u8 241, .int .u8 241, .int .u8 241, .int .u8 241, .int .u8 241, .int .u8 241, .int .u8 241, .int .u8 241, .int .u8 241, .int .u8 241, .int .u8 241, .int .u8 241, .int .u8 241, .int .u8 241, .int .u8 241, .int .u8 241, .int .u8 241, .int .u8 241, .int .u8 241, .int .u8 241, .int .u8 241, .int .u8 241, .int .u8 241, .int .u8 241, .int .u8 241, .int .u8 241, .int .u8 241, .int .u8 241, .int .u8 241, .int .u8 241, .int .u8 241, .int .u8 241, .int .u8 241, .int .u8 241, .int .u8 241, .int .u8 241, .int .u8 241, .int .u8 241, .int .u8 2, .int .u8 2, .int .u8 2, .int .u8 2, .int .u8 2, .int .u8 2, .int .u8 2, .int .u8 2, .int .u8 2, .int .u8 2, .int .u8 2, .int .u8 2, .int .u8 2, .int .u8 2, .int .u8 2, .int .u8 2, .int .u8 2, .int .u8 2, .int .u8 2, .int .u8 2, .int .u8 2, .int .u8 2, .int .u8 2, .int .u8 2, .int .u8 2, .int .u8 2, .int .u8 2, .int .u8 2, .int .u8 2, .int .u8 2, .int .u8 19, .int .u8 3, .int .u8 3, .int .u8 3, .int .u8 3, .int .u8 3, .int .u8 3, .int .u8 3, .int .u8 3, .int .u8 3, .int .u8 3, .int .u8 3, .int .u8 3, .int .u8 35, .int .u8 3, .int .u8 3, .int .u8 52, .int .u8 4, .int .u8 4, .int .u8 4, .int .u8 68, .int .u8 241, .int .u8 241, .int .u8 241, .int .u8 241, .int .u8 241, .int .u8 241, .int .u8 241, .int .u8 241, .int .u8 241, .int .u8 241, .int .u8 241]
  {w0 with heap:=h7}
noncomputable abbrev N0:Nat:=(World.settled Tryz.prog default).heap.size
theorem Ig(D:Os)(args:Array Value):laidMet Tryz.prog Rows.graphChecksRow.laid ((yA D).forCall (fun _ _=>0) ⟨#[],args,[]⟩).memory:=
  (LaidIn.of_run [7,8,6,5,3,N0+0,2,N0+1,0,N0+2,4] 8 (by kernel_rfl) (by kernel_rfl) (by kernel_rfl) (by kernel_rfl)).met
theorem table{W:World}(h:laidMetH Tryz.prog Rows.graphChecksRow.laid W):Ext.Tab W:=
  Lib.tabIs_of_head (zs:=Lib.pow10Tab) (g:=6) (t:=192) (by kernel_rfl) (by kernel_rfl) Tryz.underlying192 Tryz.underlying44 (by kernel_rfl) (by kernel_rfl) (show laidMet Tryz.prog Rows.graphChecksRow.laid W from h).tail.tail
theorem star: "*" ++ "errors.errorString" = "*errors.errorString" :=by decide
theorem GQ(u:TypeId)(h:Tryz.prog.typeName? 3 u=some "*errors.errorString"):u=177:=
  typeName_ptr_named (nm:= "errors.errorString") (by rw[star];kernel_rfl) (by kernel_rfl) (by decide) u (by rw[star];exact h)
theorem wrong{W:World}(h:laidMetH Tryz.prog Rows.graphChecksRow.laid W):Gd.Wrong W:=by
  have D:=(show laidMet Tryz.prog Rows.graphChecksRow.laid W from h).tail.tail.tail.tail.tail.tail;obtain⟨_,s,G,_⟩:=laid_sentinel D (g:=0) (ti:=89) (tp:=177) (te:=179) (ts:=9) (by kernel_rfl) (by kernel_rfl) Tryz.underlying89 GQ Tryz.underlying177 Tryz.underlying179 rfl rfl Tryz.underlying9 (by kernel_rfl) (by kernel_rfl);exact⟨_,_,World.var?_cell (show Tryz.prog.globalNamed "remontoir/guard.wrong" =some 0 by kernel_rfl) G 0⟩
end Go.Proofs.YtcaegaljhogbjaaGreatDoor.Laid
namespace Go.Proofs.YtcaegaljhogbjaaGreatDoor.graphWrong
open ChangeShapes WideShapes ChangeAt RowKit
open ChangeMaps (open_string shut_string)
theorem laidOut:laidOutB Tryz.prog=true:=by kernel_rfl
theorem reads(I:Os){H:Type}(enc:TypeId×Value→H):∃D,DataW.whole enc Tryz.prog ((Laid.yA I).forCall (fun _ _=>0) ⟨#[],#[.agg #[.string ⟨#[]⟩, .slice none 0 0, .slice none 0 0], .agg #[.int .i64 0, .int .i64 0, .int .i64 0, .string ⟨#[]⟩]],[]⟩).memory Tryz.f4.params.toList Rows.graphWrongSpec.vars false (#[.agg #[.string ⟨#[]⟩, .slice none 0 0, .slice none 0 0], .agg #[.int .i64 0, .int .i64 0, .int .i64 0, .string ⟨#[]⟩]]:Array Value).toList 8=some ([.agg [.lit (.string []), .nil, .nil], .agg [.lit (.int .i64 0), .lit (.int .i64 0), .lit (.int .i64 0), .lit (.string [])]],[],D):=by
  have U:(DataW.whole enc Tryz.prog ((Laid.yA I).forCall (fun _ _=>0) ⟨#[],#[.agg #[.string ⟨#[]⟩, .slice none 0 0, .slice none 0 0], .agg #[.int .i64 0, .int .i64 0, .int .i64 0, .string ⟨#[]⟩]],[]⟩).memory Tryz.f4.params.toList Rows.graphWrongSpec.vars false (#[.agg #[.string ⟨#[]⟩, .slice none 0 0, .slice none 0 0], .agg #[.int .i64 0, .int .i64 0, .int .i64 0, .string ⟨#[]⟩]]:Array Value).toList 8).map (fun x=>(x.1,x.2.1))=some ([.agg [.lit (.string []), .nil, .nil], .agg [.lit (.int .i64 0), .lit (.int .i64 0), .lit (.int .i64 0), .lit (.string [])]],[]):=by kernel_rfl
  obtain⟨⟨_,_,X⟩,L,G⟩:=Option.map_eq_some_iff.1 U;simp only[Prod.mk.injEq]at G;obtain⟨rfl,rfl⟩:=G;exact⟨X,L⟩
set_option maxRecDepth 100000 in
theorem lifted(Z:Os)(D:Z.Started)(H:Type)(enc:TypeId×Value→H)(F:Stop.Interp):
    ReturnsInHanded {} Tryz.checked Z 4 .any ((OpenSpec.ofChange Rows.graphWrongSpec).preRow enc Tryz.prog Tryz.f4 Rows.graphWrongRow.domain false Rows.graphWrongRow.laid) (((OpenSpec.ofChange Rows.graphWrongSpec).at F).post enc Tryz.prog Tryz.f4 false true false false):=by
  obtain⟨_,X⟩:=reads Z enc
  refine returnsInHanded_of_row (C:=Tryz.checked) (s:=OpenSpec.ofChange Rows.graphWrongSpec) Laid.own D (by kernel_rfl) Tryz.func4
    (witness_row_atRef (enc := enc) (C := Tryz.checked) false (Laid.yA Z) #[.agg #[.string ⟨#[]⟩, .slice none 0 0, .slice none 0 0], .agg #[.int .i64 0, .int .i64 0, .int .i64 0, .string ⟨#[]⟩]] rfl (by kernel_rfl) (by kernel_rfl) (by kernel_rfl)
      (OpenSpec.preRow_of_cond 8 X (by kernel_rfl) (fun k hk=>by cases hk) (by kernel_rfl) (Laid.Ig Z _))) ?_
  intro W base args ds gs ag I hW _ _ L hL _ _;have af:=Laid.wrong hL;have ab:(DataW.weightsEach Tryz.prog (Tryz.f4.params.toList++Rows.graphWrongSpec.plain.varTypes Tryz.prog) (ds++gs)).all (· ≤reachBytes)=true:=L;have G:∀(j:Nat) t v,Tryz.f4.params[j]?=some t→args[j]?=some v→Value.okWide Tryz.prog W .any base t v:=I;have U:=hW;obtain⟨p,_,Y,hV,rfl,_,_⟩:=hW;have hA:DataW.TrodAll enc Tryz.prog W 0 (fun _=>true) true Tryz.f4.params.toList args.toList ds p:=Y;rw[Tryz.params4]at hA G ab;obtain⟨v0,_,_,_,p0,_,_,rfl,rfl,h0,r0⟩:=trodAll_cons hA;obtain⟨v1,_,_,_,p1,_,rfl,rfl,rfl,h1,r1⟩:=trodAll_cons r0;obtain⟨rfl,rfl,rfl⟩:=trodAll_nil r1;obtain rfl:args=#[v0,v1]:=by cases args;simp_all
  obtain⟨rfl,rfl⟩:=trodVars_none hV;have ah:=h0;obtain⟨a0,A0,c0,l0,B0,e0,m0,rfl,am,aj,ai,ak,w0,al⟩:=Row.Je (G 0 25 v0 rfl rfl) h0;have ae:∀x∈p0,x.block<W.heap.size:=fun x X=>by simpa using U.lt x (by simp[X])
  have an:=h1;obtain⟨a1,b1,c1,s1,rfl⟩:=Row.GI (G 1 32 v1 rfl rfl) h1;have aa:∀x∈p1,x.block<W.heap.size:=fun x X=>by simpa using U.lt x (by simp[X])
  clear Y I L ab;refine(Pure.E9 a0 A0 c0 l0 B0 e0 m0 a1 b1 c1 s1 W af am aj ai ak w0 al).mono fun e W' ⟨he,bel⟩=>?_;subst he;exact⟨_,rfl,_,_,_,[],_,[],U,trodAll_mk1 (shut_bool Tryz.underlying4 _),(trodAll_cons_mk (Below.trod laidOut (by kernel_rfl) (of_decide_eq_true (by kernel_rfl)) ah bel ae) (trodAll_cons_mk (Below.trod laidOut (by kernel_rfl) (of_decide_eq_true (by kernel_rfl)) an bel aa) trodAll_mk0)),rfl,bel.frame _,fun h=>by cases h⟩
theorem said:Rows.GraphWrongSaid:=
  OpenClaim.holds_of_cond 4 Tryz.f4 rfl rfl rfl rfl rfl rfl rfl ⟨rfl,rfl,rfl,rfl,rfl⟩ rfl rfl rfl rfl rfl (by kernel_rfl) Tryz.func4 (by kernel_rfl)
    (of_decide_eq_true (by kernel_rfl)) (by unfold Func.isWrapper;first|(rw[if_pos (by decide+kernel)];kernel_rfl)|(rw[if_neg (by decide+kernel)];exact⟨rfl,rfl⟩))
    (fun G D H enc _ F=>by rw[OpenClaim.pre_eq_preRow];exact lifted G D H enc F)
theorem plain(f:FuncId)(G:Func)(L:Tryz.pinned.checked.prog.funcNamed Rows.graphWrongRow.func=some f)(D:Tryz.pinned.checked.prog.funcs[f]?=some G):
    true=Tryz.pinned.checked.prog.looks []∧∀(j:Nat) t,G.params[j]?=some t→Tryz.pinned.checked.prog.wantsStandIn t=false:=by
  obtain rfl:f=4:=Option.some.inj ((show Tryz.prog.funcNamed Rows.graphWrongRow.func=some 4 by kernel_rfl).symm.trans L)|>.symm;obtain rfl:G=Tryz.f4:=(Option.some.inj (Tryz.func4.symm.trans D)).symm;refine⟨by kernel_rfl,fun j t ht=>?_⟩;rw[Tryz.params4]at ht;have I:=Array.mem_of_getElem? ht;simp only[List.mem_toArray,List.mem_cons,List.not_mem_nil,or_false]at I;rcases I with rfl|rfl
  · exact(show Tryz.prog.wantsStandIn 25=false by kernel_rfl)
  · exact(show Tryz.prog.wantsStandIn 32=false by kernel_rfl)
theorem card:Rows.GraphWrongCardSaid:=
  Claim7.holds_tied_plain_at .later [] _ _ _ _ said (fun _ h=>by cases h) (by kernel_rfl) (fun _ h=>by cases h) graphWrong_row_tie rfl ⟨rfl,rfl⟩ (by kernel_rfl) rfl plain (by kernel_rfl)
end Go.Proofs.YtcaegaljhogbjaaGreatDoor.graphWrong
namespace Go.Proofs.YtcaegaljhogbjaaGreatDoor
theorem graphWrong_card:Rows.GraphWrongCardSaid:=graphWrong.card
end Go.Proofs.YtcaegaljhogbjaaGreatDoor
