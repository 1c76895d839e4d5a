/- The reference's add, at the five units that it is called. -/
import Derived.Test.YtcaegaljhogbjaaGreatDoorSpanParse
set_option linter.unusedVariables false
namespace Go.Proofs.Ext
open RowKit PW PM
attribute [local go_sem] qI qH qV qW
def KU(I G D:Int):Int:=if G>1125899906842624/D then 1125899906842625 else if I+G*D≤1125899906842625 then I+G*D else 1125899906842625
def kF.f(G I D:Int):Option Int:=
  if 0≤G∧G≤1125899906842625∧0≤I∧I<18446744073709551616∧(D=604800∨D=86400∨D=3600∨D=60∨D=1)then some (KU G I D)else none
theorem kF.calls(D I G r:Int)(w:World)(h:kF.f D I G=some r):
    Calls Tryz.prog 111 #[.int .u64 D, .int .u64 I, .int .u64 G] w fun e w'=>e= .returned (.int .u64 r)∧qm w w':=by
  unfold kF.f at h
  split at h
  case isFalse=>cases h
  rename_i L
  obtain⟨_,h1,_,_,U⟩:=L;obtain rfl:=Option.some.inj h;clear h;unfold KU;rcases U with rfl|rfl|rfl|rfl|rfl
  all_goals
    split
    · go_enter Tryz.func111,Tryz.ntmps111
      go_wp2;go_ret;exact⟨rfl,qm.refl _⟩
    · split
      · go_enter Tryz.func111,Tryz.ntmps111
        go_wp2;go_ret;exact⟨rfl,qm.refl _⟩
      · go_enter Tryz.func111,Tryz.ntmps111
        go_wp2;go_ret;exact⟨rfl,qm.refl _⟩
open Span
def rC.f(D:ByteArray):Option (Int×Int):=if D.size≤140737488351232 then some (((kH D.data.toList).1:Int),((kH D.data.toList).2:Int))else none
theorem rC.calls(D:ByteArray)(r1 r2:Int)(w:World)(h:rC.f D=some (r1,r2)):
    Calls Tryz.prog 57 #[.string D] w fun e w'=>e= .returned (.tuple #[.int .u64 r1, .int .i64 r2])∧Below w.heap.size w w':=by
  unfold rC.f at h
  split at h
  case isFalse=>cases h
  rename_i G
  cases h;have:=Dz D.data.toList (by rw[Lib.size_eq]at G;exact G) w;rw[GA]at this;exact this
end Go.Proofs.Ext
