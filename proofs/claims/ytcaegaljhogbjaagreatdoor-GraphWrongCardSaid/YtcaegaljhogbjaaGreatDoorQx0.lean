/- strings.Cut at a separator of one byte, strconv.Atoi at up. -/
import Derived.Lib.IndexLaws
import Derived.Lib.Atoi
import Derived.Test.YtcaegaljhogbjaaGreatDoorExtSpan
set_option linter.unusedSimpArgs false
set_option linter.unusedVariables false
namespace Go.Proofs.Ext
open RowKit Lib Go.Sort PW
theorem DW(l:List UInt8)(c:UInt8)(k:Nat)(h:Lib.indexByte l c=k):k<l.length:=by
  have:=(Lib.indexByte_some h).1;rcases Nat.lt_or_ge k l.length with h'|h'
  · exact h'
  · rw[List.getElem?_eq_none h']at this;cases this
def cutV(l:List UInt8)(c:UInt8):List UInt8×List UInt8×Bool:=if Lib.indexByte l c<0 then(l,[],false)else(l.take (Lib.indexByte l c).toNat,l.drop ((Lib.indexByte l c).toNat+1),true)
theorem Gt(s:ByteArray)(hs:s.size≤140737488351232)(c:UInt8)(w:World):
    Calls Tryz.prog 98 #[.string s, .string ⟨#[c]⟩] w fun e w'=>e= .returned (.tuple #[.string ⟨(cutV s.data.toList c).1.toArray⟩, .string ⟨(cutV s.data.toList c).2.1.toArray⟩, .bool (cutV s.data.toList c).2.2])∧qm w w':=by
  have X:=fun w=>Tryz.stringslite_Index_one s c w;have G:=Lib.indexByte_ge s.data.toList c;have D:(⟨s.data.toList.toArray⟩:ByteArray)=s:=by cases s;simp
  have I:s.size=s.data.toList.length:=Lib.size_eq s;by_cases U:Lib.indexByte s.data.toList c<0
  · have hi:Lib.indexByte s.data.toList c= -1:=by omega
    have L:cutV s.data.toList c=(s.data.toList,[],false):=if_pos U;rw[hi]at X;rw[L];dsimp only;rw[D];clear L U hi G I D;go_enter Tryz.func98,Tryz.ntmps98;go_wp2_with(go_at_call 120;refine(X _).mono ?_;rintro e w'⟨rfl,rfl⟩);go_ret3;exact⟨rfl,qm.refl _⟩
  · obtain⟨k,hk⟩:=Int.eq_ofNat_of_zero_le (show 0≤Lib.indexByte s.data.toList c by omega)
    have Y:=DW _ _ _ hk;have L:cutV s.data.toList c=(s.data.toList.take k,s.data.toList.drop (k+1),true):=by
      unfold cutV;rw[if_neg U,hk];rfl
    rw[hk]at X;rw[L];dsimp only;rw[←Lib.Pa.extract_upto,←Lib.Pa.extract_from];(have h1:k<s.size:=by omega);(have h2:(k:Int)<(s.size:Int):=by omega);(have Z:(k:Int)≤(s.size:Int):=by omega);(have h4:(k:Int)+1≤(s.size:Int):=by omega);(have h5:k+1≤s.size:=by omega);clear L U hk G Y D I;go_enter Tryz.func98,Tryz.ntmps98;go_wp2_with(go_at_call 120;refine(X _).mono ?_;rintro e w'⟨rfl,rfl⟩);go_quiet(fail);go_wp2;go_ret3;exact⟨rfl,by repeat(first|exact qm.refl _|apply qm.step)⟩
def strings_Cut.f(D G:ByteArray):Option (ByteArray×ByteArray×Bool):=
  if D.size≤140737488351232∧G.size=1 then
    some (⟨(cutV D.data.toList (G.data.toList.getD 0 0)).1.toArray⟩,⟨(cutV D.data.toList (G.data.toList.getD 0 0)).2.1.toArray⟩,(cutV D.data.toList (G.data.toList.getD 0 0)).2.2)else none
theorem strings_Cut.calls(D G r1 r2:ByteArray)(I:Bool)(w:World)(h:strings_Cut.f D G=some (r1,r2,I)):
    Calls Tryz.prog 78 #[.string D, .string G] w fun e w'=>e= .returned (.tuple #[.string r1, .string r2, .bool I])∧qm w w':=by
  unfold strings_Cut.f at h
  split at h
  case isFalse=>cases h
  rename_i L
  obtain⟨hs,h1⟩:=L;obtain⟨c,rfl⟩:∃c,G=⟨#[c]⟩:=by
    obtain⟨⟨l⟩⟩:=G
    match l,h1 with
    |[c],_=>exact⟨c,rfl⟩
  cases h;have hi:=Gt D hs c;show Calls Tryz.prog 78 #[.string D, .string ⟨#[c]⟩] w fun e w'=>e= .returned (.tuple #[.string ⟨(cutV D.data.toList c).1.toArray⟩, .string ⟨(cutV D.data.toList c).2.1.toArray⟩, .bool (cutV D.data.toList c).2.2])∧qm w w';generalize cutV D.data.toList c=v at*;obtain⟨_,_,_⟩:=v;dsimp only at*;clear h1 hs;go_enter Tryz.func78,Tryz.ntmps78;go_wp2_with(go_at_call 98;refine(hi _).mono ?_;rintro e w'⟨rfl,⟨n,rfl⟩⟩);go_ret3;exact⟨rfl,by repeat(first|exact qm.refl _|apply qm.step)⟩
theorem Hw(l:List UInt8):∀a,(∀c∈l,Span.isD c=true)→Lib.decFrom a l=some (Span.zq l a):=by
  induction l with
  |nil=>intro a _;rfl
  |cons c l ih=>
    intro a h;have D:=h c (by simp);simp only[Span.isD,Bool.and_eq_true,decide_eq_true_eq]at D;rw[Lib.decFrom,Lib.digitVal,if_pos D,Span.uI];exact ih _ (fun d hd=>h d (by simp[hd]))
theorem DY(l:List UInt8)(h:∀c∈l,Span.isD c=true)(L:l≠[]):Lib.atoi l=some ((Span.val l:Nat):Int):=by
  cases l with
  |nil=>exact absurd rfl L
  |cons c l=>
    have I:=h c (by simp);simp only[Span.isD,Bool.and_eq_true,decide_eq_true_eq]at I;have G:(c==45)=false:=by
      rw[beq_eq_false_iff_ne];rintro rfl;have:(45:UInt8).toNat=45:=rfl;omega
    have D:(c==43)=false:=by
      rw[beq_eq_false_iff_ne];rintro rfl;have:(43:UInt8).toNat=43:=rfl;omega
    rw[Lib.atoi,G,D,if_neg (by decide),if_neg (by decide),Lib.decNat,if_neg (by simp),Hw _ _ h];rfl
def strconv_Atoi.f(D:ByteArray):Option (Int×Option Int):=
  if D.size≤18∧D.data.toList≠[]∧(D.data.toList.all Span.isD)=true then some (((Span.val D.data.toList:Nat):Int),none)else none
theorem strconv_Atoi.calls(D:ByteArray)(r1:Int)(r2:Option Int)(w:World)(h:strconv_Atoi.f D=some (r1,r2)):
    Calls Tryz.prog 79 #[.string D] w fun e w'=>e= .returned (.tuple #[.int .i64 r1, .nilIface])∧Below w.heap.size w w':=by
  unfold strconv_Atoi.f at h
  split at h
  case isFalse=>cases h
  rename_i I
  obtain⟨h1,h2,L⟩:=I;cases h;refine(Tryz.strconv_Atoi D _ h1 (DY _ (fun c G=>List.all_eq_true.mp L c G) h2) w).mono ?_;rintro e w'⟨rfl,t,rfl⟩;exact⟨rfl,below_bytesWorld _ _ _⟩
end Go.Proofs.Ext
namespace Go.Proofs.Q
open Ext B RowKit PW PL PM
attribute [local go_sem] qI qH qV qW qz qA qM qL
def Bl:Option Int→Value
  |none=> .nilIface
  |some c=> .iface 0 (.int .i64 c)
theorem iO:Bl none= .nilIface:=rfl
theorem iN(c:Int):Bl (some c)= .iface 0 (.int .i64 c):=rfl
end Go.Proofs.Q
