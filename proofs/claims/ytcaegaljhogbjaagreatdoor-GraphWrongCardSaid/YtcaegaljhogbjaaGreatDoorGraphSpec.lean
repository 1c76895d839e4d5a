/- What the checks of a graph come to, in plain words; facts of blocks for the walks. -/
import Derived.Test.YtcaegaljhogbjaaGreatDoorGuardLaws
import Derived.Test.YtcaegaljhogbjaaGreatDoorYx3
import Derived.Test.YtcaegaljhogbjaaGreatDoorYx4
import Derived.Test.YtcaegaljhogbjaaGreatDoorYx7
set_option linter.unusedVariables false
namespace Go.Proofs.Gr
open RowKit Lib Go.Sort PW PL PM Y Gd
def kJ(l:List S38)(n:Int):Int:=(iH l (wrap64 (n-1))).f1
def gE(x:S40):Int:=if x.f2=2 then(if guardE x.f4=0 then 0 else 18)else if x.f2=3 then(if guardE x.f4=0 then 0 else 18)else if x.f4.toList=[]then 0 else 18
def mE(x:S40):Int:=if x.f2=3 then(if x.f3<1 then 17 else if 9<x.f3 then 17 else gE x)else if x.f3=0 then gE x else 17
def fE(G D:Int)(x:S40)(a b:Int)(outs:Nat):Int:=
  if a=0 then 17 else if b=0 then 17 else if G=D then
    (if a=2 then 17 else if a=9 then 17 else if b=1 then 17 else if b=8 then 17 else if b=9 then 17 else
     if x.f2<0 then 17 else if 3<x.f2 then 17 else
     if x.f2=0 then mE x else if a=5 then(if outs<2 then 17 else mE x)else 17)
  else 17
section
variable {w:World}
theorem kT{g:Nat}{t:TypeId}{a b c d e:Value}(h:w.heap[g]?=some (.cells #[a,b,c,d,e] t (0,0))):
    w.cell? ⟨g,0,none⟩=some a∧w.cell? ⟨g,1,none⟩=some b∧w.cell? ⟨g,2,none⟩=some c∧w.cell? ⟨g,3,none⟩=some d∧w.cell? ⟨g,4,none⟩=some e:=
  ⟨(iF h 0).trans rfl,(iF h 1).trans rfl,(iF h 2).trans rfl,(iF h 3).trans rfl,(iF h 4).trans rfl⟩
theorem qO{g:Nat}{t:TypeId}{a b c:Value}(h:w.heap[g]?=some (.cells #[a,b,c] t (0,0))):
    w.cell? ⟨g,0,none⟩=some a∧w.cell? ⟨g,1,none⟩=some b∧w.cell? ⟨g,2,none⟩=some c:=
  ⟨(iF h 0).trans rfl,(iF h 1).trans rfl,(iF h 2).trans rfl⟩
end
def Bx(w:World)(b:Nat)(cs:Array Value)(T:TypeId)(ds:Array Value)(U:TypeId)(wc:World):Prop:=
  eD (wc.heap[b]?=some (.cells cs T (0,0)))∧eD (wc.heap[b+1]?=some (.cells ds U (0,0)))∧eD (Below w.heap.size w wc)
theorem Bx.below{w wc w':World}{b:Nat}{cs ds:Array Value}{T U:TypeId}(h:Bx w b cs T ds U wc)(D:Below wc.heap.size wc w'):Bx w b cs T ds U w':=
  ⟨⟨iW h.1.out D⟩,⟨iW h.2.1.out D⟩,⟨kg h.2.2.out D⟩⟩
theorem Bx.low{w wc:World}{b:Nat}{cs ds:Array Value}{T U:TypeId}(h:Bx w b cs T ds U wc):Below w.heap.size w wc:=h.2.2.out
theorem Bx.drewN{w wc:World}{b:Nat}{cs ds:Array Value}{T U:TypeId}(h:Bx w b cs T ds U wc)(n:Nat):Bx w b cs T ds U (wc.drewN n):=h.below (eP (Below.refl _ _) _)
theorem Bx.drew{w wc:World}{b:Nat}{cs ds:Array Value}{T U:TypeId}(h:Bx w b cs T ds U wc):Bx w b cs T ds U wc.drew:=h.below (eZ (Below.refl _ _))
theorem Bx.new(w:World)(cs:Array Value)(T:TypeId)(ds:Array Value)(U:TypeId):Bx w w.heap.size cs T ds U ((w.alloc (.cells cs T)).alloc (.cells ds U)):=by
  have e:(w.alloc (.cells cs T)).heap.size=w.heap.size+1:=by simp
  exact⟨⟨sG (qF w _) _⟩,⟨by rw[←e];exact qF _ _⟩,⟨eX (eX (Below.refl _ _) _) _⟩⟩
theorem Dl{D:ByteArray}{l1:List S38}{l2:List S40}{n a:Int}(h:iL.f D l1 l2 n=some a)(G:a≠0):0≤wrap64 (n-1)∧wrap64 (n-1)<(l1.length:Int):=by
  unfold iL.f at h;obtain⟨t,_,h⟩:=Option.bind_eq_some_iff.mp h
  split at h
  · split at h
    · split at h
      · exact⟨by assumption,by assumption⟩
      · cases h
    · cases h
  · exact absurd (Option.some.inj h).symm G
end Go.Proofs.Gr
