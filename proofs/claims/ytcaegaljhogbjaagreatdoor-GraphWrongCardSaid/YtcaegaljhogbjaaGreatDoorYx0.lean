/- What Go functions compute, as plain Lean functions, and. -/
import Derived.Test.YtcaegaljhogbjaaGreatDoorQx1
import Derived.Test.YtcaegaljhogbjaaGreatDoorQx3
set_option linter.unusedSimpArgs false
set_option linter.unusedVariables false
namespace Go.Proofs.Y
open Ext B Q RowKit PW PL PM
attribute [local go_sem] qI qH qV qW qz qA qM qL
def Bl:Option Int→Value
  |none=> .nilIface
  |some c=> .iface 0 (.int .i64 c)
theorem iO:Bl none= .nilIface:=rfl
theorem iN(c:Int):Bl (some c)= .iface 0 (.int .i64 c):=rfl
theorem info3:(Tryz.prog.info? 3).map (fun i=>(i.zero,i.size,i.bytes))=some (some (.int .i64 0),1,8):=by kernel_rfl
structure S38 where
  f0:Int
  f1:Int
  f2:Int
  f3:Int
  f4:ByteArray
def z38:S38:=⟨(0:Int),(0:Int),(0:Int),(0:Int),(⟨#[]⟩:ByteArray)⟩
def k38:Kd S38:=Kd.iso (Kd.pair (Kd.int .i64) (Kd.pair (Kd.int .i64) (Kd.pair (Kd.int .i64) (Kd.pair (Kd.int .i64) Kd.string)))) (fun x:S38=>(x.f0,x.f1,x.f2,x.f3,x.f4))
theorem G6{w:World}{x:S38}{cs:List Value}(h:k38.K w x cs):cs=[.int .i64 x.f0, .int .i64 x.f1, .int .i64 x.f2, .int .i64 x.f3, .string x.f4]:=by
  obtain⟨_,_,rfl,rfl,⟨_,_,rfl,rfl,⟨_,_,rfl,rfl,⟨_,_,rfl,rfl,rfl⟩⟩⟩⟩:=h;exact rfl
theorem uP{w:World}{base:Nat}{ok:Nat→Prop}{x:S38}{cs:List Value}(h:k38.M w base ok x cs):cs=[.int .i64 x.f0, .int .i64 x.f1, .int .i64 x.f2, .int .i64 x.f3, .string x.f4]:=by
  obtain⟨_,_,rfl,rfl,⟨_,_,rfl,rfl,⟨_,_,rfl,rfl,⟨_,_,rfl,rfl,rfl⟩⟩⟩⟩:=h;exact rfl
theorem KW(w:World)(x:S38):k38.K w x [.int .i64 x.f0, .int .i64 x.f1, .int .i64 x.f2, .int .i64 x.f3, .string x.f4]:=⟨[.int .i64 x.f0],[.int .i64 x.f1, .int .i64 x.f2, .int .i64 x.f3, .string x.f4],rfl,rfl,⟨[.int .i64 x.f1],[.int .i64 x.f2, .int .i64 x.f3, .string x.f4],rfl,rfl,⟨[.int .i64 x.f2],[.int .i64 x.f3, .string x.f4],rfl,rfl,⟨[.int .i64 x.f3],[.string x.f4],rfl,rfl,rfl⟩⟩⟩⟩
theorem wO(w:World)(base:Nat)(ok:Nat→Prop)(x:S38):k38.M w base ok x [.int .i64 x.f0, .int .i64 x.f1, .int .i64 x.f2, .int .i64 x.f3, .string x.f4]:=⟨[.int .i64 x.f0],[.int .i64 x.f1, .int .i64 x.f2, .int .i64 x.f3, .string x.f4],rfl,rfl,⟨[.int .i64 x.f1],[.int .i64 x.f2, .int .i64 x.f3, .string x.f4],rfl,rfl,⟨[.int .i64 x.f2],[.int .i64 x.f3, .string x.f4],rfl,rfl,⟨[.int .i64 x.f3],[.string x.f4],rfl,rfl,rfl⟩⟩⟩⟩
def iH(xs:List S38)(i:Int):S38:=xs.getD i.toNat z38
theorem tH{w:World}{A:Option Addr}{n:Nat}{xs:List S38}(h:Kd.C k38 w A n xs)(i:Int)(I:0≤i)(h1:i<n):∃ad,A=some ad∧w.cell? (ad.add (i.toNat*5))=some (.int .i64 (iH xs i).f0)∧w.cell? ⟨(ad.add (i.toNat*5)).block,(ad.add (i.toNat*5)).off+1,none⟩=some (.int .i64 (iH xs i).f1)∧w.cell? ⟨(ad.add (i.toNat*5)).block,(ad.add (i.toNat*5)).off+2,none⟩=some (.int .i64 (iH xs i).f2)∧w.cell? ⟨(ad.add (i.toNat*5)).block,(ad.add (i.toNat*5)).off+3,none⟩=some (.int .i64 (iH xs i).f3)∧w.cell? ⟨(ad.add (i.toNat*5)).block,(ad.add (i.toNat*5)).off+4,none⟩=some (.string (iH xs i).f4):=by
  obtain⟨ad,c,e,_,L,G⟩:=Kd.FD h z38 i I h1;have D:∀j u,c[j]?=some u→w.cell? (ad.add (i.toNat*5+j))=some u:=G;obtain rfl:=G6 L;exact⟨ad,e,D 0 _ rfl,by rw[←sU _ _ 1 (by omega)];exact D 1 _ rfl,by rw[←sU _ _ 2 (by omega)];exact D 2 _ rfl,by rw[←sU _ _ 3 (by omega)];exact D 3 _ rfl,by rw[←sU _ _ 4 (by omega)];exact D 4 _ rfl⟩
theorem uD{w u:World}{A:Option Addr}{n:Nat}{xs:List S38}(h:eD (Kd.C k38 w A n xs))(D:eD (Below w.heap.size w u))(i:Int)(G:decide (0≤i)=true:=by assumption)(h1:decide (i<n)=true:=by assumption):∃ad,A=some ad∧u.cell? (ad.add (i.toNat*5))=some (.int .i64 (iH xs i).f0)∧u.cell? ⟨(ad.add (i.toNat*5)).block,(ad.add (i.toNat*5)).off+1,none⟩=some (.int .i64 (iH xs i).f1)∧u.cell? ⟨(ad.add (i.toNat*5)).block,(ad.add (i.toNat*5)).off+2,none⟩=some (.int .i64 (iH xs i).f2)∧u.cell? ⟨(ad.add (i.toNat*5)).block,(ad.add (i.toNat*5)).off+3,none⟩=some (.int .i64 (iH xs i).f3)∧u.cell? ⟨(ad.add (i.toNat*5)).block,(ad.add (i.toNat*5)).off+4,none⟩=some (.string (iH xs i).f4)∧(0≤i)=True∧(i<n)=True:=by
  obtain⟨ad,e,L,I,Y,X,U⟩:=tH h.out i (of_decide_eq_true G) (of_decide_eq_true h1);exact⟨ad,e,cu D L,cu D I,cu D Y,cu D X,cu D U,eq_true (of_decide_eq_true G),eq_true (of_decide_eq_true h1)⟩
structure S40 where
  f0:Int
  f1:Int
  f2:Int
  f3:Int
  f4:ByteArray
def z40:S40:=⟨(0:Int),(0:Int),(0:Int),(0:Int),(⟨#[]⟩:ByteArray)⟩
def k40:Kd S40:=Kd.iso (Kd.pair (Kd.int .i64) (Kd.pair (Kd.int .i64) (Kd.pair (Kd.int .i64) (Kd.pair (Kd.int .i64) Kd.string)))) (fun x:S40=>(x.f0,x.f1,x.f2,x.f3,x.f4))
theorem Hf{w:World}{x:S40}{cs:List Value}(h:k40.K w x cs):cs=[.int .i64 x.f0, .int .i64 x.f1, .int .i64 x.f2, .int .i64 x.f3, .string x.f4]:=by
  obtain⟨_,_,rfl,rfl,⟨_,_,rfl,rfl,⟨_,_,rfl,rfl,⟨_,_,rfl,rfl,rfl⟩⟩⟩⟩:=h;exact rfl
theorem uQ{w:World}{base:Nat}{ok:Nat→Prop}{x:S40}{cs:List Value}(h:k40.M w base ok x cs):cs=[.int .i64 x.f0, .int .i64 x.f1, .int .i64 x.f2, .int .i64 x.f3, .string x.f4]:=by
  obtain⟨_,_,rfl,rfl,⟨_,_,rfl,rfl,⟨_,_,rfl,rfl,⟨_,_,rfl,rfl,rfl⟩⟩⟩⟩:=h;exact rfl
theorem KH(w:World)(x:S40):k40.K w x [.int .i64 x.f0, .int .i64 x.f1, .int .i64 x.f2, .int .i64 x.f3, .string x.f4]:=⟨[.int .i64 x.f0],[.int .i64 x.f1, .int .i64 x.f2, .int .i64 x.f3, .string x.f4],rfl,rfl,⟨[.int .i64 x.f1],[.int .i64 x.f2, .int .i64 x.f3, .string x.f4],rfl,rfl,⟨[.int .i64 x.f2],[.int .i64 x.f3, .string x.f4],rfl,rfl,⟨[.int .i64 x.f3],[.string x.f4],rfl,rfl,rfl⟩⟩⟩⟩
theorem yt(w:World)(base:Nat)(ok:Nat→Prop)(x:S40):k40.M w base ok x [.int .i64 x.f0, .int .i64 x.f1, .int .i64 x.f2, .int .i64 x.f3, .string x.f4]:=⟨[.int .i64 x.f0],[.int .i64 x.f1, .int .i64 x.f2, .int .i64 x.f3, .string x.f4],rfl,rfl,⟨[.int .i64 x.f1],[.int .i64 x.f2, .int .i64 x.f3, .string x.f4],rfl,rfl,⟨[.int .i64 x.f2],[.int .i64 x.f3, .string x.f4],rfl,rfl,⟨[.int .i64 x.f3],[.string x.f4],rfl,rfl,rfl⟩⟩⟩⟩
def iR(xs:List S40)(i:Int):S40:=xs.getD i.toNat z40
theorem zI{w:World}{A:Option Addr}{n:Nat}{xs:List S40}(h:Kd.C k40 w A n xs)(i:Int)(I:0≤i)(h1:i<n):∃ad,A=some ad∧w.cell? (ad.add (i.toNat*5))=some (.int .i64 (iR xs i).f0)∧w.cell? ⟨(ad.add (i.toNat*5)).block,(ad.add (i.toNat*5)).off+1,none⟩=some (.int .i64 (iR xs i).f1)∧w.cell? ⟨(ad.add (i.toNat*5)).block,(ad.add (i.toNat*5)).off+2,none⟩=some (.int .i64 (iR xs i).f2)∧w.cell? ⟨(ad.add (i.toNat*5)).block,(ad.add (i.toNat*5)).off+3,none⟩=some (.int .i64 (iR xs i).f3)∧w.cell? ⟨(ad.add (i.toNat*5)).block,(ad.add (i.toNat*5)).off+4,none⟩=some (.string (iR xs i).f4):=by
  obtain⟨ad,c,e,_,L,G⟩:=Kd.FD h z40 i I h1;have D:∀j u,c[j]?=some u→w.cell? (ad.add (i.toNat*5+j))=some u:=G;obtain rfl:=Hf L;exact⟨ad,e,D 0 _ rfl,by rw[←sU _ _ 1 (by omega)];exact D 1 _ rfl,by rw[←sU _ _ 2 (by omega)];exact D 2 _ rfl,by rw[←sU _ _ 3 (by omega)];exact D 3 _ rfl,by rw[←sU _ _ 4 (by omega)];exact D 4 _ rfl⟩
theorem vB{w u:World}{A:Option Addr}{n:Nat}{xs:List S40}(h:eD (Kd.C k40 w A n xs))(D:eD (Below w.heap.size w u))(i:Int)(G:decide (0≤i)=true:=by assumption)(h1:decide (i<n)=true:=by assumption):∃ad,A=some ad∧u.cell? (ad.add (i.toNat*5))=some (.int .i64 (iR xs i).f0)∧u.cell? ⟨(ad.add (i.toNat*5)).block,(ad.add (i.toNat*5)).off+1,none⟩=some (.int .i64 (iR xs i).f1)∧u.cell? ⟨(ad.add (i.toNat*5)).block,(ad.add (i.toNat*5)).off+2,none⟩=some (.int .i64 (iR xs i).f2)∧u.cell? ⟨(ad.add (i.toNat*5)).block,(ad.add (i.toNat*5)).off+3,none⟩=some (.int .i64 (iR xs i).f3)∧u.cell? ⟨(ad.add (i.toNat*5)).block,(ad.add (i.toNat*5)).off+4,none⟩=some (.string (iR xs i).f4)∧(0≤i)=True∧(i<n)=True:=by
  obtain⟨ad,e,L,I,Y,X,U⟩:=zI h.out i (of_decide_eq_true G) (of_decide_eq_true h1);exact⟨ad,e,cu D L,cu D I,cu D Y,cu D X,cu D U,eq_true (of_decide_eq_true G),eq_true (of_decide_eq_true h1)⟩
end Go.Proofs.Y
