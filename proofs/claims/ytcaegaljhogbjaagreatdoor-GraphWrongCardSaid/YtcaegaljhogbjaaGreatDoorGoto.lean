/- DERIVED: THE SHELF's CONTRACTS AT THIS DUMP, IN PLAIN WORDS. -/
import Derived.Shelf.Strings.Trim
import Derived.Shelf.Small.Utf8
import Derived.Shelf.Small.Strs
import Derived.Shelf.Small.Wraps
import Derived.Shelf.Strconv.Atoi
import Derived.Shelf.Strconv.Itoa0
import Derived.Shelf.Strconv.Itoa1
import Derived.Shelf.LaysM
import Derived.Shelf.Strconv.Itoa2
import Derived.Shelf.Strconv.Itoa3
import Derived.Shelf.Strconv.AtoiErrFast
import Derived.Shelf.Strconv.ParseIntEmpty
import Derived.Shelf.Strconv.AtoiFail
import Derived.Shelf.Strconv.Clone
import Derived.Shelf.Strconv.SyntaxError
import Derived.Shelf.LaysC
import Derived.Shelf.Strconv.ToError
import Derived.Shelf.Strconv.Lower
import Derived.Shelf.Strconv.ParseUint10
import Derived.Shelf.Strconv.ParseUint10Empty
import Derived.Shelf.Strconv.ParseUint10Any
import Derived.Shelf.Strconv.ParseInt10
import Derived.Shelf.Strconv.AtoiLong
import Derived.Shelf.Strconv.AtoiInnerAll
import Derived.Shelf.Strconv.RangeError
import Derived.Shelf.Strconv.ToErrorRange
import Derived.Shelf.Strconv.AtoiAll
import Derived.Shelf.Strconv.ErrVarAll
import Derived.Ground.MpProg
import Derived.Shelf.Pu.ParseUintPublic10
import Derived.Shelf.Pu.ErrVarParseUint
import Derived.Shelf.Strings.Search1
import Derived.Shelf.Strings.Search2
import Derived.Shelf.Strings.Cut
import Derived.Shelf.Strings.Shaped
import Derived.Shelf.Strings.Prefix
import Derived.Shelf.Strings.Runes
import Derived.Shelf.Strings.AsciiSet
import Derived.Shelf.Bits.Mul64
import Derived.Shelf.Unicode.DecodeSlow
import Derived.Shelf.Slices.Turned
import Derived.Test.YtcaegaljhogbjaaGreatDoorProg
import Derived.Lib.ItoaMem
import Derived.Sort.Grow
import Derived.Laws.Externs
import Derived.ScopeJumps
import Derived.Lib.ParseIntB
import Derived.Lib.ItoaNum
import Derived.Test.YtcaegaljhogbjaaGreatDoorOn2
set_option linter.unusedSimpArgs false
set_option linter.unusedVariables false
namespace Go.Proofs
open Shelf
def Tryz.Dy:Go.Shelf.Ren:=⟨fun|161=>80|231=>101|227=>102|233=>103|235=>104|228=>126|197=>127|151=>128|260=>147|152=>148|137=>77|119=>153|224=>142|225=>141|217=>97|266=>119|n=>n,fun|9=>9|4=>4|3=>3|5=>5|117=>137|116=>136|0=>0|124=>140|105=>159|21=>21|119=>180|46=>164|139=>183|138=>182|n=>n,fun|3=>4|4=>5|n=>n⟩
theorem Tryz.FJ:Go.Proofs.Lays.n161 Tryz.prog Tryz.Dy:={
  mixed:=by kernel_rfl
  f119:=Tryz.func153.trans (congrArg some (by kernel_rfl))
  f137:=Tryz.func77.trans (congrArg some (by kernel_rfl))
  f151:=Tryz.func128.trans (congrArg some (by kernel_rfl))
  f152:=Tryz.func148.trans (congrArg some (by kernel_rfl))
  f161:=Tryz.func80.trans (congrArg some (by kernel_rfl))
  f197:=Tryz.func127.trans (congrArg some (by kernel_rfl))
  f217:=Tryz.func97.trans (congrArg some (by kernel_rfl))
  f224:=Tryz.func142.trans (congrArg some (by kernel_rfl))
  f225:=Tryz.func141.trans (congrArg some (by kernel_rfl))
  f227:=Tryz.func102.trans (congrArg some (by kernel_rfl))
  f228:=Tryz.func126.trans (congrArg some (by kernel_rfl))
  f231:=Tryz.func101.trans (congrArg some (by kernel_rfl))
  f233:=Tryz.func103.trans (congrArg some (by kernel_rfl))
  f235:=Tryz.func104.trans (congrArg some (by kernel_rfl))
  f260:=Tryz.func147.trans (congrArg some (by kernel_rfl))
  f266:=Tryz.func119.trans (congrArg some (by kernel_rfl))
  t0:=Tryz.underlying0
  a0:=Tryz.isAgg0
  z0:=Tryz.sizeOf0
  v0:=Tryz.zeroValue0
  t3:=Tryz.underlying3
  a3:=Tryz.isAgg3
  z3:=Tryz.sizeOf3
  v3:=Tryz.zeroValue3
  t4:=Tryz.underlying4
  a4:=Tryz.isAgg4
  z4:=Tryz.sizeOf4
  v4:=Tryz.zeroValue4
  t5:=Tryz.underlying5
  a5:=Tryz.isAgg5
  z5:=Tryz.sizeOf5
  v5:=Tryz.zeroValue5
  t9:=Tryz.underlying9
  a9:=Tryz.isAgg9
  z9:=Tryz.sizeOf9
  v9:=Tryz.zeroValue9
  t21:=Tryz.underlying21
  a21:=Tryz.isAgg21
  z21:=Tryz.sizeOf21
  v21:=Tryz.zeroValue21
  t46:=Tryz.underlying164
  a46:=Tryz.isAgg164
  z46:=Tryz.sizeOf164
  v46:=Tryz.zeroValue164
  t105:=Tryz.underlying159
  a105:=Tryz.isAgg159
  z105:=Tryz.sizeOf159
  v105:=Tryz.zeroValue159
  t116:=Tryz.underlying136
  a116:=Tryz.isAgg136
  z116:=Tryz.sizeOf136
  t117:=Tryz.underlying137
  a117:=Tryz.isAgg137
  z117:=Tryz.sizeOf137
  v117:=Tryz.zeroValue137
  t119:=Tryz.underlying180
  a119:=Tryz.isAgg180
  z119:=Tryz.sizeOf180
  t124:=Tryz.underlying140
  a124:=Tryz.isAgg140
  z124:=Tryz.sizeOf140
  v124:=Tryz.zeroValue140
  t138:=Tryz.underlying182
  a138:=Tryz.isAgg182
  z138:=Tryz.sizeOf182
  v138:=Tryz.zeroValue182
  t139:=Tryz.underlying183
  a139:=Tryz.isAgg183
  z139:=Tryz.sizeOf183
  v139:=Tryz.zeroValue183
  g3:=by kernel_rfl
  g4:=by kernel_rfl}
open Go.RowKit in
theorem Tryz.strings_TrimLeft_one(s:ByteArray)(c:UInt8)(D:c.toNat<128)(w:World):
    Calls Tryz.prog 80 #[.string s, .string ⟨#[c]⟩] w fun e w'=>e= .returned (.string ⟨(Lib.trimLeftB s.data.toList c).toArray⟩)∧w'=w:=Any.strings_TrimLeft_one Tryz.FJ s c D w
def Tryz.Dh:Go.Shelf.Ren:=⟨fun|137=>77|217=>97|266=>119|n=>n,fun|9=>9|5=>5|3=>3|n=>n,fun|n=>n⟩
theorem Tryz.Jw:Go.Proofs.Lays.n137 Tryz.prog Tryz.Dh:={
  mixed:=by kernel_rfl
  f137:=Tryz.func77.trans (congrArg some (by kernel_rfl))
  f217:=Tryz.func97.trans (congrArg some (by kernel_rfl))
  f266:=Tryz.func119.trans (congrArg some (by kernel_rfl))
  t3:=Tryz.underlying3
  a3:=Tryz.isAgg3
  z3:=Tryz.sizeOf3
  v3:=Tryz.zeroValue3
  t5:=Tryz.underlying5
  a5:=Tryz.isAgg5
  z5:=Tryz.sizeOf5
  v5:=Tryz.zeroValue5
  t9:=Tryz.underlying9
  a9:=Tryz.isAgg9
  z9:=Tryz.sizeOf9
  v9:=Tryz.zeroValue9}
open Go.RowKit in
theorem Tryz.strings_IndexByte(s:ByteArray)(c:Int)(w:World):
    Calls Tryz.prog 77 #[.string s, .int .u8 c] w fun e w'=>e= .returned (.int .i64 (Lib.indexByte s.data.toList c.toNat.toUInt8))∧w'=w:=Any.strings_IndexByte Tryz.Jw s c w
def Tryz.CQ:Go.Shelf.Ren:=⟨fun|210=>92|206=>93|n=>n,fun|9=>9|4=>4|3=>3|n=>n,fun|n=>n⟩
theorem Tryz.Jr:Go.Proofs.Lays.n210 Tryz.prog Tryz.CQ:={
  mixed:=by kernel_rfl
  f206:=Tryz.func93.trans (congrArg some (by kernel_rfl))
  f210:=Tryz.func92.trans (congrArg some (by kernel_rfl))
  t3:=Tryz.underlying3
  a3:=Tryz.isAgg3
  z3:=Tryz.sizeOf3
  v3:=Tryz.zeroValue3
  t4:=Tryz.underlying4
  a4:=Tryz.isAgg4
  z4:=Tryz.sizeOf4
  v4:=Tryz.zeroValue4
  t9:=Tryz.underlying9
  a9:=Tryz.isAgg9
  z9:=Tryz.sizeOf9
  v9:=Tryz.zeroValue9}
open Go.RowKit in
theorem Tryz.stringslite_CutPrefix(s p:ByteArray)(w:World):
    Calls Tryz.prog 92 #[.string s, .string p] w fun e w'=>e= .returned (.tuple #[.string ⟨(Lib.trimPrefix s.data.toList p.data.toList).toArray⟩, .bool (Lib.hasPrefix s.data.toList p.data.toList)])∧w'=w:=Any.stringslite_CutPrefix Tryz.Jr s p w
def Tryz.D9:Go.Shelf.Ren:=⟨fun|103=>73|210=>92|206=>93|n=>n,fun|9=>9|4=>4|24=>104|3=>3|n=>n,fun|n=>n⟩
theorem Tryz.J6:Go.Proofs.Lays.n103 Tryz.prog Tryz.D9:={
  mixed:=by kernel_rfl
  f103:=Tryz.func73.trans (congrArg some (by kernel_rfl))
  f206:=Tryz.func93.trans (congrArg some (by kernel_rfl))
  f210:=Tryz.func92.trans (congrArg some (by kernel_rfl))
  t3:=Tryz.underlying3
  a3:=Tryz.isAgg3
  z3:=Tryz.sizeOf3
  v3:=Tryz.zeroValue3
  t4:=Tryz.underlying4
  a4:=Tryz.isAgg4
  z4:=Tryz.sizeOf4
  v4:=Tryz.zeroValue4
  t9:=Tryz.underlying9
  a9:=Tryz.isAgg9
  z9:=Tryz.sizeOf9
  v9:=Tryz.zeroValue9
  t24:=Tryz.underlying104
  a24:=Tryz.isAgg104
  z24:=Tryz.sizeOf104
  v24:=Tryz.zeroValue104}
open Go.RowKit in
theorem Tryz.strings_CutPrefix(s p:ByteArray)(w:World):
    Calls Tryz.prog 73 #[.string s, .string p] w fun e w'=>e= .returned (.tuple #[.string ⟨(Lib.trimPrefix s.data.toList p.data.toList).toArray⟩, .bool (Lib.hasPrefix s.data.toList p.data.toList)])∧w'=w:=Any.strings_CutPrefix Tryz.J6 s p w
def Tryz.El:Go.Shelf.Ren:=⟨fun|172=>79|244=>99|245=>100|247=>121|279=>122|280=>123|281=>124|282=>125|287=>116|316=>144|171=>146|205=>145|321=>138|322=>139|243=>152|246=>156|283=>157|284=>158|285=>159|286=>160|129=>162|317=>161|318=>163|319=>164|320=>165|337=>166|338=>167|n=>n,fun|9=>9|3=>3|75=>89|76=>114|4=>4|5=>5|167=>151|37=>152|0=>0|85=>153|2=>2|168=>155|53=>44|175=>128|46=>164|210=>170|127=>176|145=>179|143=>177|21=>21|171=>186|173=>189|212=>192|51=>173|20=>20|213=>193|232=>196|233=>197|80=>198|n=>n,fun|15=>2|16=>3|17=>6|18=>7|19=>8|n=>n⟩
theorem Tryz.Jz:Go.Proofs.Lays.n172 Tryz.prog Tryz.El:={
  mixed:=by kernel_rfl
  f129:=Tryz.func162.trans (congrArg some (by kernel_rfl))
  f171:=Tryz.func146.trans (congrArg some (by kernel_rfl))
  f172:=Tryz.func79.trans (congrArg some (by kernel_rfl))
  f205:=Tryz.func145.trans (congrArg some (by kernel_rfl))
  f243:=Tryz.func152.trans (congrArg some (by kernel_rfl))
  f244:=Tryz.func99.trans (congrArg some (by kernel_rfl))
  f245:=Tryz.func100.trans (congrArg some (by kernel_rfl))
  f246:=Tryz.func156.trans (congrArg some (by kernel_rfl))
  f247:=Tryz.func121.trans (congrArg some (by kernel_rfl))
  f279:=Tryz.func122.trans (congrArg some (by kernel_rfl))
  f280:=Tryz.func123.trans (congrArg some (by kernel_rfl))
  f281:=Tryz.func124.trans (congrArg some (by kernel_rfl))
  f282:=Tryz.func125.trans (congrArg some (by kernel_rfl))
  f283:=Tryz.func157.trans (congrArg some (by kernel_rfl))
  f284:=Tryz.func158.trans (congrArg some (by kernel_rfl))
  f285:=Tryz.func159.trans (congrArg some (by kernel_rfl))
  f286:=Tryz.func160.trans (congrArg some (by kernel_rfl))
  f287:=Tryz.func116.trans (congrArg some (by kernel_rfl))
  f316:=Tryz.func144.trans (congrArg some (by kernel_rfl))
  f317:=Tryz.func161.trans (congrArg some (by kernel_rfl))
  f318:=Tryz.func163.trans (congrArg some (by kernel_rfl))
  f319:=Tryz.func164.trans (congrArg some (by kernel_rfl))
  f320:=Tryz.func165.trans (congrArg some (by kernel_rfl))
  f321:=Tryz.func138.trans (congrArg some (by kernel_rfl))
  f322:=Tryz.func139.trans (congrArg some (by kernel_rfl))
  f337:=Tryz.func166.trans (congrArg some (by kernel_rfl))
  f338:=Tryz.func167.trans (congrArg some (by kernel_rfl))
  t0:=Tryz.underlying0
  a0:=Tryz.isAgg0
  z0:=Tryz.sizeOf0
  v0:=Tryz.zeroValue0
  t2:=Tryz.underlying2
  a2:=Tryz.isAgg2
  z2:=Tryz.sizeOf2
  v2:=Tryz.zeroValue2
  t3:=Tryz.underlying3
  a3:=Tryz.isAgg3
  z3:=Tryz.sizeOf3
  v3:=Tryz.zeroValue3
  t4:=Tryz.underlying4
  a4:=Tryz.isAgg4
  z4:=Tryz.sizeOf4
  v4:=Tryz.zeroValue4
  t5:=Tryz.underlying5
  a5:=Tryz.isAgg5
  z5:=Tryz.sizeOf5
  v5:=Tryz.zeroValue5
  t9:=Tryz.underlying9
  a9:=Tryz.isAgg9
  z9:=Tryz.sizeOf9
  v9:=Tryz.zeroValue9
  t20:=Tryz.underlying20
  a20:=Tryz.isAgg20
  z20:=Tryz.sizeOf20
  v20:=Tryz.zeroValue20
  t21:=Tryz.underlying21
  a21:=Tryz.isAgg21
  z21:=Tryz.sizeOf21
  v21:=Tryz.zeroValue21
  t37:=Tryz.underlying152
  a37:=Tryz.isAgg152
  z37:=Tryz.sizeOf152
  v37:=Tryz.zeroValue152
  t46:=Tryz.underlying164
  a46:=Tryz.isAgg164
  z46:=Tryz.sizeOf164
  v46:=Tryz.zeroValue164
  t51:=Tryz.underlying173
  a51:=Tryz.isAgg173
  z51:=Tryz.sizeOf173
  v51:=Tryz.zeroValue173
  t53:=Tryz.underlying44
  a53:=Tryz.isAgg44
  z53:=Tryz.sizeOf44
  v53:=Tryz.zeroValue44
  t75:=Tryz.underlying89
  a75:=Tryz.isAgg89
  z75:=Tryz.sizeOf89
  v75:=Tryz.zeroValue89
  t76:=Tryz.underlying114
  a76:=Tryz.isAgg114
  z76:=Tryz.sizeOf114
  v76:=Tryz.zeroValue114
  t85:=Tryz.underlying153
  a85:=Tryz.isAgg153
  z85:=Tryz.sizeOf153
  v85:=Tryz.zeroValue153
  t127:=Tryz.underlying176
  a127:=Tryz.isAgg176
  z127:=Tryz.sizeOf176
  v127:=Tryz.zeroValue176
  t143:=Tryz.underlying177
  a143:=Tryz.isAgg177
  z143:=Tryz.sizeOf177
  v143:=Tryz.zeroValue177
  t145:=Tryz.underlying179
  a145:=Tryz.isAgg179
  z145:=Tryz.sizeOf179
  v145:=Tryz.zeroValue179
  t167:=Tryz.underlying151
  a167:=Tryz.isAgg151
  z167:=Tryz.sizeOf151
  v167:=Tryz.zeroValue151
  t168:=Tryz.underlying155
  a168:=Tryz.isAgg155
  z168:=Tryz.sizeOf155
  v168:=Tryz.zeroValue155
  t171:=Tryz.underlying186
  a171:=Tryz.isAgg186
  z171:=Tryz.sizeOf186
  v171:=Tryz.zeroValue186
  t173:=Tryz.underlying189
  a173:=Tryz.isAgg189
  z173:=Tryz.sizeOf189
  v173:=Tryz.zeroValue189
  t175:=Tryz.underlying128
  a175:=Tryz.isAgg128
  z175:=Tryz.sizeOf128
  v175:=Tryz.zeroValue128
  t210:=Tryz.underlying170
  a210:=Tryz.isAgg170
  z210:=Tryz.sizeOf170
  v210:=Tryz.zeroValue170
  t212:=Tryz.underlying192
  a212:=Tryz.isAgg192
  z212:=Tryz.sizeOf192
  v212:=Tryz.zeroValue192
  t213:=Tryz.underlying193
  a213:=Tryz.isAgg193
  z213:=Tryz.sizeOf193
  t232:=Tryz.underlying196
  a232:=Tryz.isAgg196
  z232:=Tryz.sizeOf196
  v232:=Tryz.zeroValue196
  t233:=Tryz.underlying197
  a233:=Tryz.isAgg197
  z233:=Tryz.sizeOf197
  v233:=Tryz.zeroValue197
  g15:=by kernel_rfl
  g16:=by kernel_rfl
  g17:=by kernel_rfl
  g18:=by kernel_rfl
  g19:=by kernel_rfl}
open Go.RowKit in
theorem Tryz.strconv_Atoi(s:ByteArray)(n:Int)(hl:s.size≤18)(h:Lib.atoi s.data.toList=some n)(w:World):
    Calls Tryz.prog 79 #[.string s] w fun e w'=>e= .returned (.tuple #[.int .i64 n, .nilIface])∧∃t,w'=Lib.bytesWorld w 5 t:=Any.strconv_Atoi Tryz.Jz s n hl h w
def Tryz.BZ:Go.Shelf.Ren:=⟨fun|14=>94|16=>116|17=>100|19=>138|20=>139|21=>122|22=>123|23=>124|24=>125|25=>144|27=>146|26=>145|28=>152|29=>156|30=>157|31=>158|32=>159|33=>160|35=>162|34=>161|36=>163|37=>164|38=>165|39=>166|40=>167|n=>n,fun|9=>9|3=>3|22=>44|24=>89|25=>128|4=>4|34=>151|5=>5|36=>164|37=>152|0=>0|39=>155|21=>21|44=>170|47=>176|50=>179|48=>177|2=>2|52=>186|55=>189|59=>192|60=>173|20=>20|61=>193|65=>196|66=>197|67=>198|n=>n,fun|0=>2|1=>3|2=>6|3=>7|4=>8|n=>n⟩
theorem Tryz.Ik:Go.Proofs.LaysPu.n14 Tryz.prog Tryz.BZ:={
  mixed:=by kernel_rfl
  f14:=Tryz.func94.trans (congrArg some (by kernel_rfl))
  f16:=Tryz.func116.trans (congrArg some (by kernel_rfl))
  f17:=Tryz.func100.trans (congrArg some (by kernel_rfl))
  f19:=Tryz.func138.trans (congrArg some (by kernel_rfl))
  f20:=Tryz.func139.trans (congrArg some (by kernel_rfl))
  f21:=Tryz.func122.trans (congrArg some (by kernel_rfl))
  f22:=Tryz.func123.trans (congrArg some (by kernel_rfl))
  f23:=Tryz.func124.trans (congrArg some (by kernel_rfl))
  f24:=Tryz.func125.trans (congrArg some (by kernel_rfl))
  f25:=Tryz.func144.trans (congrArg some (by kernel_rfl))
  f26:=Tryz.func145.trans (congrArg some (by kernel_rfl))
  f27:=Tryz.func146.trans (congrArg some (by kernel_rfl))
  f28:=Tryz.func152.trans (congrArg some (by kernel_rfl))
  f29:=Tryz.func156.trans (congrArg some (by kernel_rfl))
  f30:=Tryz.func157.trans (congrArg some (by kernel_rfl))
  f31:=Tryz.func158.trans (congrArg some (by kernel_rfl))
  f32:=Tryz.func159.trans (congrArg some (by kernel_rfl))
  f33:=Tryz.func160.trans (congrArg some (by kernel_rfl))
  f34:=Tryz.func161.trans (congrArg some (by kernel_rfl))
  f35:=Tryz.func162.trans (congrArg some (by kernel_rfl))
  f36:=Tryz.func163.trans (congrArg some (by kernel_rfl))
  f37:=Tryz.func164.trans (congrArg some (by kernel_rfl))
  f38:=Tryz.func165.trans (congrArg some (by kernel_rfl))
  f39:=Tryz.func166.trans (congrArg some (by kernel_rfl))
  f40:=Tryz.func167.trans (congrArg some (by kernel_rfl))
  t0:=Tryz.underlying0
  a0:=Tryz.isAgg0
  z0:=Tryz.sizeOf0
  v0:=Tryz.zeroValue0
  i0:=by kernel_rfl
  t2:=Tryz.underlying2
  a2:=Tryz.isAgg2
  z2:=Tryz.sizeOf2
  v2:=Tryz.zeroValue2
  i2:=by kernel_rfl
  t3:=Tryz.underlying3
  a3:=Tryz.isAgg3
  z3:=Tryz.sizeOf3
  v3:=Tryz.zeroValue3
  i3:=by kernel_rfl
  t4:=Tryz.underlying4
  a4:=Tryz.isAgg4
  z4:=Tryz.sizeOf4
  v4:=Tryz.zeroValue4
  i4:=by kernel_rfl
  t5:=Tryz.underlying5
  a5:=Tryz.isAgg5
  z5:=Tryz.sizeOf5
  v5:=Tryz.zeroValue5
  i5:=by kernel_rfl
  t9:=Tryz.underlying9
  a9:=Tryz.isAgg9
  z9:=Tryz.sizeOf9
  v9:=Tryz.zeroValue9
  i9:=by kernel_rfl
  t20:=Tryz.underlying20
  a20:=Tryz.isAgg20
  z20:=Tryz.sizeOf20
  v20:=Tryz.zeroValue20
  i20:=by kernel_rfl
  t21:=Tryz.underlying21
  a21:=Tryz.isAgg21
  z21:=Tryz.sizeOf21
  v21:=Tryz.zeroValue21
  i21:=by kernel_rfl
  t22:=Tryz.underlying44
  a22:=Tryz.isAgg44
  z22:=Tryz.sizeOf44
  v22:=Tryz.zeroValue44
  i22:=by kernel_rfl
  t24:=Tryz.underlying89
  a24:=Tryz.isAgg89
  z24:=Tryz.sizeOf89
  v24:=Tryz.zeroValue89
  i24:=by kernel_rfl
  t25:=Tryz.underlying128
  a25:=Tryz.isAgg128
  z25:=Tryz.sizeOf128
  v25:=Tryz.zeroValue128
  i25:=by kernel_rfl
  t34:=Tryz.underlying151
  a34:=Tryz.isAgg151
  z34:=Tryz.sizeOf151
  v34:=Tryz.zeroValue151
  i34:=by kernel_rfl
  c34:=by kernel_rfl
  t36:=Tryz.underlying164
  a36:=Tryz.isAgg164
  z36:=Tryz.sizeOf164
  v36:=Tryz.zeroValue164
  i36:=by kernel_rfl
  t37:=Tryz.underlying152
  a37:=Tryz.isAgg152
  z37:=Tryz.sizeOf152
  v37:=Tryz.zeroValue152
  i37:=by kernel_rfl
  t39:=Tryz.underlying155
  a39:=Tryz.isAgg155
  z39:=Tryz.sizeOf155
  v39:=Tryz.zeroValue155
  i39:=by kernel_rfl
  t44:=Tryz.underlying170
  a44:=Tryz.isAgg170
  z44:=Tryz.sizeOf170
  v44:=Tryz.zeroValue170
  i44:=by kernel_rfl
  t47:=Tryz.underlying176
  a47:=Tryz.isAgg176
  z47:=Tryz.sizeOf176
  v47:=Tryz.zeroValue176
  i47:=by kernel_rfl
  t48:=Tryz.underlying177
  a48:=Tryz.isAgg177
  z48:=Tryz.sizeOf177
  v48:=Tryz.zeroValue177
  i48:=by kernel_rfl
  t50:=Tryz.underlying179
  a50:=Tryz.isAgg179
  z50:=Tryz.sizeOf179
  v50:=Tryz.zeroValue179
  i50:=by kernel_rfl
  t52:=Tryz.underlying186
  a52:=Tryz.isAgg186
  z52:=Tryz.sizeOf186
  v52:=Tryz.zeroValue186
  i52:=by kernel_rfl
  t55:=Tryz.underlying189
  a55:=Tryz.isAgg189
  z55:=Tryz.sizeOf189
  v55:=Tryz.zeroValue189
  i55:=by kernel_rfl
  t59:=Tryz.underlying192
  a59:=Tryz.isAgg192
  z59:=Tryz.sizeOf192
  v59:=Tryz.zeroValue192
  i59:=by kernel_rfl
  t60:=Tryz.underlying173
  a60:=Tryz.isAgg173
  z60:=Tryz.sizeOf173
  v60:=Tryz.zeroValue173
  i60:=by kernel_rfl
  t61:=Tryz.underlying193
  a61:=Tryz.isAgg193
  z61:=Tryz.sizeOf193
  t65:=Tryz.underlying196
  a65:=Tryz.isAgg196
  z65:=Tryz.sizeOf196
  v65:=Tryz.zeroValue196
  i65:=by kernel_rfl
  t66:=Tryz.underlying197
  a66:=Tryz.isAgg197
  z66:=Tryz.sizeOf197
  v66:=Tryz.zeroValue197
  i66:=by kernel_rfl
  t67:=Tryz.underlying198
  a67:=Tryz.isAgg198
  z67:=Tryz.sizeOf198
  v67:=Tryz.zeroValue198
  i67:=by kernel_rfl
  g0:=by kernel_rfl
  m0:=by kernel_rfl
  g1:=by kernel_rfl
  m1:=by kernel_rfl
  g2:=by kernel_rfl
  m2:=by kernel_rfl
  g3:=by kernel_rfl
  m3:=by kernel_rfl
  g4:=by kernel_rfl
  m4:=by kernel_rfl}
open Go.RowKit in
theorem Tryz.strconv_ParseUint_10_at64_ok(s:ByteArray)(D:s.size≤9223372036854775806)(u:Nat)(h:Lib.parseUintB 64 s.data.toList= .ok u)(w:World):
    Calls Tryz.prog 94 #[.string s, .int .i64 10, .int .i64 64] w fun e w'=>e= .returned (.tuple #[.int .u64 u, .nilIface])∧(w'=w∨w'=Lib.bytesWorld w 5 s):=Any.strconv_ParseUint_10_at64_ok Tryz.Ik s D u h w
def Tryz.CP:Go.Shelf.Ren:=⟨fun|219=>120|217=>97|225=>141|224=>142|267=>143|266=>119|314=>151|n=>n,fun|9=>9|3=>3|4=>4|5=>5|46=>164|146=>174|51=>173|n=>n,fun|1=>1|n=>n⟩
theorem Tryz.JB:Go.Proofs.Lays.n219 Tryz.prog Tryz.CP:={
  mixed:=by kernel_rfl
  f217:=Tryz.func97.trans (congrArg some (by kernel_rfl))
  f219:=Tryz.func120.trans (congrArg some (by kernel_rfl))
  f224:=Tryz.func142.trans (congrArg some (by kernel_rfl))
  f225:=Tryz.func141.trans (congrArg some (by kernel_rfl))
  f266:=Tryz.func119.trans (congrArg some (by kernel_rfl))
  f267:=Tryz.func143.trans (congrArg some (by kernel_rfl))
  f314:=Tryz.func151.trans (congrArg some (by kernel_rfl))
  t3:=Tryz.underlying3
  a3:=Tryz.isAgg3
  z3:=Tryz.sizeOf3
  v3:=Tryz.zeroValue3
  t4:=Tryz.underlying4
  a4:=Tryz.isAgg4
  z4:=Tryz.sizeOf4
  v4:=Tryz.zeroValue4
  t5:=Tryz.underlying5
  a5:=Tryz.isAgg5
  z5:=Tryz.sizeOf5
  v5:=Tryz.zeroValue5
  t9:=Tryz.underlying9
  a9:=Tryz.isAgg9
  z9:=Tryz.sizeOf9
  v9:=Tryz.zeroValue9
  t46:=Tryz.underlying164
  a46:=Tryz.isAgg164
  z46:=Tryz.sizeOf164
  v46:=Tryz.zeroValue164
  t51:=Tryz.underlying173
  a51:=Tryz.isAgg173
  z51:=Tryz.sizeOf173
  v51:=Tryz.zeroValue173
  t146:=Tryz.underlying174
  a146:=Tryz.isAgg174
  z146:=Tryz.sizeOf174
  v146:=Tryz.zeroValue174
  g1:=by kernel_rfl}
open Go.RowKit Go.Lib in
theorem Tryz.stringslite_Index_one(s:ByteArray)(c:UInt8)(w:World):
    Calls Tryz.prog 120 #[.string s, .string ⟨#[c]⟩] w fun e w'=>e= .returned (.int .i64 (Lib.indexByte s.data.toList c))∧w'=w:=Any.stringslite_Index_one Tryz.JB s c w
def Tryz.Dx:Go.Shelf.Ren:=⟨fun|145=>78|220=>98|219=>120|217=>97|225=>141|224=>142|267=>143|266=>119|314=>151|n=>n,fun|9=>9|4=>4|59=>112|3=>3|5=>5|46=>164|146=>174|51=>173|n=>n,fun|1=>1|n=>n⟩
theorem Tryz.JM:Go.Proofs.Lays.n145 Tryz.prog Tryz.Dx:={
  mixed:=by kernel_rfl
  f145:=Tryz.func78.trans (congrArg some (by kernel_rfl))
  f217:=Tryz.func97.trans (congrArg some (by kernel_rfl))
  f219:=Tryz.func120.trans (congrArg some (by kernel_rfl))
  f220:=Tryz.func98.trans (congrArg some (by kernel_rfl))
  f224:=Tryz.func142.trans (congrArg some (by kernel_rfl))
  f225:=Tryz.func141.trans (congrArg some (by kernel_rfl))
  f266:=Tryz.func119.trans (congrArg some (by kernel_rfl))
  f267:=Tryz.func143.trans (congrArg some (by kernel_rfl))
  f314:=Tryz.func151.trans (congrArg some (by kernel_rfl))
  t3:=Tryz.underlying3
  a3:=Tryz.isAgg3
  z3:=Tryz.sizeOf3
  v3:=Tryz.zeroValue3
  t4:=Tryz.underlying4
  a4:=Tryz.isAgg4
  z4:=Tryz.sizeOf4
  v4:=Tryz.zeroValue4
  t5:=Tryz.underlying5
  a5:=Tryz.isAgg5
  z5:=Tryz.sizeOf5
  v5:=Tryz.zeroValue5
  t9:=Tryz.underlying9
  a9:=Tryz.isAgg9
  z9:=Tryz.sizeOf9
  v9:=Tryz.zeroValue9
  t46:=Tryz.underlying164
  a46:=Tryz.isAgg164
  z46:=Tryz.sizeOf164
  v46:=Tryz.zeroValue164
  t51:=Tryz.underlying173
  a51:=Tryz.isAgg173
  z51:=Tryz.sizeOf173
  v51:=Tryz.zeroValue173
  t59:=Tryz.underlying112
  a59:=Tryz.isAgg112
  z59:=Tryz.sizeOf112
  v59:=Tryz.zeroValue112
  t146:=Tryz.underlying174
  a146:=Tryz.isAgg174
  z146:=Tryz.sizeOf174
  v146:=Tryz.zeroValue174
  g1:=by kernel_rfl}
open Go.RowKit Go.Lib in
theorem Tryz.strings_Cut(s D:ByteArray)(m:Int)(w:World)(hs:s.size<4294967281)(G:w.cell? ⟨1,0,none⟩=some (.int .i64 m)):
    Calls Tryz.prog 78 #[.string s, .string D] w fun e w'=>e= .returned (.tuple #[.string ⟨(Lib.cut s.data.toList D.data.toList).1.toArray⟩, .string ⟨(Lib.cut s.data.toList D.data.toList).2.1.toArray⟩, .bool (Lib.cut s.data.toList D.data.toList).2.2])∧∃n,w'=w.drewN n:=Any.strings_Cut Tryz.JM s D m w hs G
def Tryz.Dt:Go.Shelf.Ren:=⟨fun|206=>93|n=>n,fun|9=>9|4=>4|3=>3|n=>n,fun|n=>n⟩
theorem Tryz.JY:Go.Proofs.Lays.n206 Tryz.prog Tryz.Dt:={
  mixed:=by kernel_rfl
  f206:=Tryz.func93.trans (congrArg some (by kernel_rfl))
  t3:=Tryz.underlying3
  a3:=Tryz.isAgg3
  z3:=Tryz.sizeOf3
  v3:=Tryz.zeroValue3
  t4:=Tryz.underlying4
  a4:=Tryz.isAgg4
  z4:=Tryz.sizeOf4
  v4:=Tryz.zeroValue4
  t9:=Tryz.underlying9
  a9:=Tryz.isAgg9
  z9:=Tryz.sizeOf9
  v9:=Tryz.zeroValue9}
open Go.RowKit Go.Lib in
theorem Tryz.stringslite_HasPrefix(s p:ByteArray)(w:World):
    Calls Tryz.prog 93 #[.string s, .string p] w fun e w'=>e= .returned (.bool (Lib.hasPrefix s.data.toList p.data.toList))∧w'=w:=Any.stringslite_HasPrefix Tryz.JY s p w
def Tryz.EP:Go.Shelf.Ren:=⟨fun|99=>74|206=>93|n=>n,fun|9=>9|4=>4|3=>3|n=>n,fun|n=>n⟩
theorem Tryz.Ko:Go.Proofs.Lays.n99 Tryz.prog Tryz.EP:={
  mixed:=by kernel_rfl
  f99:=Tryz.func74.trans (congrArg some (by kernel_rfl))
  f206:=Tryz.func93.trans (congrArg some (by kernel_rfl))
  t3:=Tryz.underlying3
  a3:=Tryz.isAgg3
  z3:=Tryz.sizeOf3
  v3:=Tryz.zeroValue3
  t4:=Tryz.underlying4
  a4:=Tryz.isAgg4
  z4:=Tryz.sizeOf4
  v4:=Tryz.zeroValue4
  t9:=Tryz.underlying9
  a9:=Tryz.isAgg9
  z9:=Tryz.sizeOf9
  v9:=Tryz.zeroValue9}
open Go.RowKit Go.Lib in
theorem Tryz.strings_HasPrefix(s p:ByteArray)(w:World):
    Calls Tryz.prog 74 #[.string s, .string p] w fun e w'=>e= .returned (.bool (Lib.hasPrefix s.data.toList p.data.toList))∧w'=w:=Any.strings_HasPrefix Tryz.Ko s p w
def Tryz.Dm:Go.Shelf.Ren:=⟨fun|264=>117|n=>n,fun|53=>44|46=>164|n=>n,fun|n=>n⟩
theorem Tryz.Ke:Go.Proofs.Lays.n264 Tryz.prog Tryz.Dm:={
  mixed:=by kernel_rfl
  f264:=Tryz.func117.trans (congrArg some (by kernel_rfl))
  t46:=Tryz.underlying164
  a46:=Tryz.isAgg164
  z46:=Tryz.sizeOf164
  v46:=Tryz.zeroValue164
  t53:=Tryz.underlying44
  a53:=Tryz.isAgg44
  z53:=Tryz.sizeOf44
  v53:=Tryz.zeroValue44}
open Go.RowKit Go.Lib in
theorem Tryz.bits_Mul64(x y:Nat)(G:x<18446744073709551616)(D:y<18446744073709551616)(w:World):
    Calls Tryz.prog 117 #[.int .u64 x, .int .u64 y] w fun e w'=>e= .returned (.tuple #[.int .u64 ((x*y/18446744073709551616:Nat):Int), .int .u64 ((x*y%18446744073709551616:Nat):Int)])∧w'=w:=Any.bits_Mul64 Tryz.Ke x y G D w
def Tryz.Dp:Go.Shelf.Ren:=⟨fun|107=>106|108=>129|n=>n,fun|28=>36|3=>3|4=>4|0=>0|n=>n,fun|n=>n⟩
theorem Tryz.JF:Go.Proofs.Lays.n107 Tryz.prog Tryz.Dp:={
  mixed:=by kernel_rfl
  f107:=Tryz.func106.trans (congrArg some (by kernel_rfl))
  f108:=Tryz.func129.trans (congrArg some (by kernel_rfl))
  t0:=Tryz.underlying0
  a0:=Tryz.isAgg0
  z0:=Tryz.sizeOf0
  v0:=Tryz.zeroValue0
  t3:=Tryz.underlying3
  a3:=Tryz.isAgg3
  z3:=Tryz.sizeOf3
  v3:=Tryz.zeroValue3
  t4:=Tryz.underlying4
  a4:=Tryz.isAgg4
  z4:=Tryz.sizeOf4
  v4:=Tryz.zeroValue4
  t28:=Tryz.underlying36
  a28:=Tryz.isAgg36
  z28:=Tryz.sizeOf36
  v28:=Tryz.zeroValue36}
open Go.Lib in
theorem Tryz.slices_Contains_int(b D n c:Nat)(zs:List Int)(x:Int)(w:World)(L:n≤zs.length)(G:n≤9223372036854775807)(I:∀j,j<zs.length→w.cell? ⟨b,D+j,none⟩=some (.int .i64 (zs.getD j 0))):
    Calls Tryz.prog 106 #[.slice (some ⟨b,D,none⟩) n c, .int .i64 x] w fun e w'=>e= .returned (.bool ((zs.take n).contains x))∧w'=w:=Any.slices_Contains_int Tryz.JF b D n c zs x w L G I
end Go.Proofs
namespace Go.Proofs.Ext
open RowKit Lib Go.Sort PW
def Tab(w:World):Prop:=Lib.TabIs Tryz.prog w "internal/strconv.uint64pow10" .u64 Lib.pow10Tab
theorem Tab.keep{w w':World}(h:Tab w)(hk:∀k,k<w.heap.size→w'.heap[k]?=w.heap[k]?):Tab w':=by
  unfold Tab Lib.TabIs World.var? at*;cases hg:Tryz.prog.globalNamed "internal/strconv.uint64pow10" with
  |none=>simp[hg]at h
  |some g=>
    simp only[hg,Option.bind_some]at h⊢;have D:g<w.heap.size:=by
      rcases Nat.lt_or_ge g w.heap.size with h'|h'
      · exact h'
      · rw[Array.getElem?_eq_none h']at h;simp at h
    rw[hk g D];exact h
theorem Tab.below{w w':World}(h:Tab w)(b:Below w.heap.size w w'):Tab w':=h.keep b.block
theorem Tab.alloc{w:World}(h:Tab w)(o:Obj):Tab (w.alloc o):=Lib.tabIs_alloc h o
theorem Tab.drew{w:World}(h:Tab w):Tab w.drew:=h
theorem Tab.drewN{w:World}(h:Tab w)(n:Nat):Tab (w.drewN n):=h.below (qm.below ⟨⟨n,rfl⟩⟩)
theorem Tab.setCell{w:World}(h:Tab w){B:Nat}(D:w.heap.size≤B)(o:Nat)(u:Value):Tab (w.setCell ⟨B,o,none⟩ u):=h.below ((Below.refl _ _).setCell D u)
theorem below_drewN{B:Nat}{a w:World}(h:Below B a w)(n:Nat):Below B a (w.drewN n):=by
  have:=(qm.below (w:=w) (w':=w.drewN n) ⟨⟨n,rfl⟩⟩)
  exact⟨this.os.trans h.os,this.tape.trans h.tape,this.output.trans h.output,Nat.le_trans h.size this.size,fun k hk=>by
    rcases Nat.lt_or_ge k w.heap.size with h'|h'
    · exact(this.block k h').trans (h.block k hk)
    · have e:(w.drewN n).heap=w.heap:=by
        induction n with
        |zero=>rfl
        |succ n ih=>rfl
      rw[e];exact h.block k hk⟩
def ku.f(D:ByteArray)(I G:Int):Option (Int×Option Int):=
  if I=10∧G=64∧D.size≤1000 then
    match Lib.parseUintB 64 D.data.toList with
    | .ok u=>some (u,none)
    |_=>none
  else none
theorem below_bytesWorld(w:World)(e:TypeId)(s:ByteArray):Below w.heap.size w (Lib.bytesWorld w e s):=by
  have h:=((Below.refl w.heap.size w).drew.alloc (w:=w.drew) (Nat.le_refl _) (.cells (bytesCells w e s) e))
  refine⟨h.os,h.tape,h.output,?_,fun k hk=>?_⟩
  · have:=h.size
    simp[Lib.bytesWorld,World.freeze]at this⊢
  · rw[←h.block k hk]
    simp only[Lib.bytesWorld,World.freeze];rw[if_neg (by decide)];simp only[Array.getElem?_modify];rw[if_neg (by omega)]
theorem ku.calls(D:ByteArray)(L I:Int)(r1:Int)(r2:Option Int)(w:World)(h:ku.f D L I=some (r1,r2)):
    Calls Tryz.prog 94 #[.string D, .int .i64 L, .int .i64 I] w fun e w'=>e= .returned (.tuple #[.int .u64 r1, .nilIface])∧Below w.heap.size w w':=by
  unfold ku.f at h
  split at h
  case isFalse=>cases h
  rename_i U
  obtain⟨rfl,rfl,_⟩:=U
  split at h
  case h_2=>cases h
  rename_i u X
  cases h;refine(Tryz.strconv_ParseUint_10_at64_ok D (by omega) u X w).mono ?_;rintro e w'⟨rfl,G|G⟩
  · subst G;exact⟨rfl,Below.refl _ _⟩
  · subst G;exact⟨rfl,below_bytesWorld _ _ _⟩
def bits_Mul64.f(D G:Int):Option (Int×Int):=if 0≤D∧D<18446744073709551616∧0≤G∧G<18446744073709551616 then some (D*G/18446744073709551616,D*G%18446744073709551616)else none
theorem bits_Mul64.calls(D G r1 r2:Int)(w:World)(h:bits_Mul64.f D G=some (r1,r2)):
    Calls Tryz.prog 117 #[.int .u64 D, .int .u64 G] w fun e w'=>e= .returned (.tuple #[.int .u64 r1, .int .u64 r2])∧qm w w':=by
  unfold bits_Mul64.f at h
  split at h
  case isFalse=>cases h
  rename_i I
  obtain⟨L,h1,h2,_⟩:=I;obtain⟨x,rfl⟩:=Int.eq_ofNat_of_zero_le L;obtain⟨y,rfl⟩:=Int.eq_ofNat_of_zero_le h2;cases h;refine(Tryz.bits_Mul64 x y (by omega) (by omega) w).mono ?_;rintro e w'⟨rfl,rfl⟩;refine⟨?_,qm.refl _⟩;rw[←Int.natCast_mul];rfl
def wo.f(D G:Int):Option (Int×Bool):=if 0≤D∧D<18446744073709551616∧0≤G∧G<18446744073709551616 then(if D+G<18446744073709551616 then some (D+G,true)else some (0,false))else none
theorem FY(x y:Int)(G:0≤x)(D:0≤y)(w:World):
    (callFunc 140 #[.int .u64 x, .int .u64 y, .int .u64 0]).run Tryz.prog w=
      .ok (.value (.tuple #[.int .u64 ((x+y+0)%18446744073709551616), .int .u64 ((x+y+0)/18446744073709551616)])) w:=by
  rw[run_callFunc_extern Tryz.func140 (by kernel_rfl) (by kernel_rfl) (by kernel_rfl) (e:=add64Entry) (by kernel_rfl),run_add64 x y 0 G D (by omega) (by omega)];rfl
theorem Gn(x y:Int)(G:0≤x)(D:0≤y)(h:x+y<18446744073709551616):(x+y+0)%18446744073709551616=x+y∧(x+y+0)/18446744073709551616=0:=by omega
theorem Gw(x y:Int)(G:x<18446744073709551616)(D:y<18446744073709551616)(h:¬x+y<18446744073709551616):(x+y+0)/18446744073709551616=1:=by omega
theorem wo.calls(I L:Int)(r1:Int)(r2:Bool)(w:World)(h:wo.f I L=some (r1,r2)):
    Calls Tryz.prog 118 #[.int .u64 I, .int .u64 L] w fun e w'=>e= .returned (.tuple #[.int .u64 r1, .bool r2])∧qm w w':=by
  unfold wo.f at h
  split at h
  case isFalse=>cases h
  rename_i hc
  obtain⟨X,h1,h2,Y⟩:=hc;have D:=FY I L X h2
  split at h
  · rename_i G
    cases h;obtain⟨Z,U⟩:=Gn I L X h2 G;rw[Z,U]at D;clear X h1 h2 Y G Z U;go_enter Tryz.func118,Tryz.ntmps118;go_wp2;go_ret2;exact⟨rfl,qm.refl _⟩
  · rename_i G
    cases h;have U:=Gw I L h1 Y G;rw[U]at D;generalize(I+L+0)%18446744073709551616=z at D;clear X h1 h2 Y G U;go_enter Tryz.func118,Tryz.ntmps118;go_wp2;go_ret2;exact⟨rfl,qm.refl _⟩
end Go.Proofs.Ext
namespace Go.Proofs.Span
def isD(c:UInt8):Bool:=48≤c.toNat&&c.toNat≤57
def zq(l:List UInt8)(a:Nat):Nat:=
  match l with
  |[]=>a
  |c::l=>zq l (a*10+(c.toNat-48))
theorem Bj(a:Nat):zq [] a=a:=rfl
theorem uI(a:Nat)(c:UInt8)(l:List UInt8):zq (c::l) a=zq l (a*10+(c.toNat-48)):=rfl
def val(l:List UInt8):Nat:=zq l 0
def nD:List UInt8→Nat
  |[]=>0
  |c::l=>if isD c=true then nD l+1 else 0
def qP(l:List UInt8):Nat×Nat×List UInt8:=
  if nD l<1∨15<nD l∨nD l=l.length∨(l.getD 0 0=48∧1<nD l)then(0,0,[])
  else(val (l.take (nD l)),(l.getD (nD l) 0).toNat,l.drop (nD l+1))
def yU(a b:Nat):Nat:=if a+b<18446744073709551616 then a+b else 18446744073709551615
def qR(t n u:Nat):Nat:=if n*u<18446744073709551616 then yU t (n*u)else yU t 1125899906842625
def vI(t:Nat):Nat×Nat:=if 1125899906842624<t then(0,3)else(t,0)
def place(u:Nat):Int:=if u=72 then 0 else if u=77 then 1 else if u=83 then 2 else-1
def z8(p:Int):Nat:=if p=0 then 3600 else if p=1 then 60 else 1
def sJ:Nat→List UInt8→Nat→Int→Nat×Nat
  |0,_,_,_=>(0,2)
  |k+1,l,t,last=>
    if place (qP l).2.1≤last then(0,2)
    else if(qP l).2.2=[]then vI (qR t (qP l).1 (z8 (place (qP l).2.1)))
    else sJ k (qP l).2.2 (qR t (qP l).1 (z8 (place (qP l).2.1))) (place (qP l).2.1)
def vV(l:List UInt8)(t:Nat):Nat×Nat:=
  match l with
  |84::r=>sJ 4 r t (-1)
  |_=>(0,2)
def wP(r:List UInt8):Nat×Nat:=
  if(qP r).2.1=89∨(qP r).2.1=77 then(0,4)
  else if(qP r).2.1=87 then(if(qP r).2.2=[]then vI (qR 0 (qP r).1 604800)else(0,2))
  else if(qP r).2.1=68 then(if(qP r).2.2=[]then vI (qR 0 (qP r).1 86400)else vV (qP r).2.2 (qR 0 (qP r).1 86400))
  else(0,2)
def kH(l:List UInt8):Nat×Nat:=
  match l with
  |80::r=>if r.head?=some 84 then vV r 0 else wP r
  |_=>(0,2)
theorem Fw(l:List UInt8):∀a,(∀c∈l,isD c=true)→zq l a<(a+1)*10^l.length:=by
  induction l with
  |nil=>intro a _;simp only[Bj,List.length_nil,Nat.pow_zero,Nat.mul_one];omega
  |cons c l ih=>
    intro a h;have D:=h c (by simp);simp only[isD,Bool.and_eq_true,decide_eq_true_eq]at D;have:=ih (a*10+(c.toNat-48)) (fun d hd=>h d (by simp[hd]));simp only[uI,List.length_cons,Nat.pow_succ];refine Nat.lt_of_lt_of_le this ?_;rw[Nat.mul_comm (10^l.length) 10,←Nat.mul_assoc];exact Nat.mul_le_mul_right _ (by omega)
theorem I9(n m:Nat)(h:n≤m):10^n≤10^m:=Nat.pow_le_pow_right (Nat.zero_lt_succ 9) h
theorem LZ:(10:Nat)^15=1000000000000000:=by decide
theorem Lv:(10:Nat)^16=10000000000000000:=by decide
theorem EZ(l:List UInt8)(h:∀c∈l,isD c=true)(hl:l.length≤15):val l<1000000000000000:=by
  have h1:=Fw l 0 h;have h2:=I9 _ _ hl;rw[LZ]at h2;rw[Nat.zero_add,Nat.one_mul]at h1;unfold val;exact Nat.lt_of_lt_of_le h1 h2
theorem FW(l:List UInt8):∀a,(∀c∈l,isD c=true)→(a+1)*10^l.length≤10000000000000000→Lib.parseUintM (2^64-1) a l= .ok (zq l a):=by
  induction l with
  |nil=>intro a _ _;simp only[Bj,Lib.parseUintM]
  |cons c l ih=>
    intro a h D;have G:=h c (by simp);simp only[isD,Bool.and_eq_true,decide_eq_true_eq]at G;simp only[List.length_cons,Nat.pow_succ]at D;have I:1≤10^l.length:=Nat.pos_of_ne_zero (by simp);have h1:(a+1)*10≤10000000000000000:=by
      refine Nat.le_trans ?_ D;rw[Nat.mul_comm (10^l.length) 10,←Nat.mul_assoc];exact Nat.le_mul_of_pos_right _ I
    have h2:(a*10+(c.toNat-48)+1)*10^l.length≤10000000000000000:=by
      refine Nat.le_trans ?_ D;rw[Nat.mul_comm (10^l.length) 10,←Nat.mul_assoc];exact Nat.mul_le_mul_right _ (by omega)
    simp only[Lib.parseUintM,uI];rw[if_pos G,if_neg (by omega),if_neg (by omega)];exact ih _ (fun d hd=>h d (by simp[hd])) h2
theorem Cn(l:List UInt8)(h:∀c∈l,isD c=true)(D:l≠[])(hl:l.length≤15):Lib.parseUintB 64 l= .ok (val l):=by
  unfold Lib.parseUintB;rw[if_neg D];refine FW l 0 h ?_;have h2:=I9 l.length 16 (by omega);rw[Lv]at h2;rw[Nat.zero_add,Nat.one_mul];exact h2
theorem uL(l:List UInt8):nD l≤l.length:=by
  induction l with
  |nil=>exact Nat.le_refl _
  |cons c l ih=>simp only[nD,List.length_cons];split<;>omega
theorem BO(l:List UInt8):∀j,j<nD l→isD (l.getD j 0)=true:=by
  induction l with
  |nil=>intro j h;simp[nD]at h
  |cons c l ih=>
    intro j h;simp only[nD]at h
    split at h
    · rename_i D
      cases j with
      |zero=>exact D
      |succ j=>exact ih j (by omega)
    · omega
theorem Cv(l:List UInt8)(h:nD l<l.length):isD (l.getD (nD l) 0)=false:=by
  induction l with
  |nil=>simp at h
  |cons c l ih=>
    by_cases D:isD c=true
    · simp only[nD,if_pos D,List.length_cons]at h⊢
      exact ih (by omega)
    · simp only[nD,if_neg D]
      simpa using D
theorem xV(l:List UInt8):∀c∈l.take (nD l),isD c=true:=by
  induction l with
  |nil=>simp
  |cons c l ih=>
    intro d hd;by_cases D:isD c=true
    · simp only[nD,if_pos D,List.take_succ_cons]at hd
      rcases List.mem_cons.mp hd with rfl|h
      · exact D
      · exact ih d h
    · simp only[nD,if_neg D,List.take_zero]at hd
      simp at hd
theorem xR(l:List UInt8):(qP l).1<1000000000000000∧(qP l).2.1<256∧(qP l).2.2.length≤l.length:=by
  unfold qP
  split
  · simp
  · rename_i D
    refine⟨EZ _ (xV l) (by rw[List.length_take];omega),UInt8.toNat_lt _,?_⟩;show(l.drop (nD l+1)).length≤_;rw[List.length_drop];omega
theorem IX(a b:Nat):yU a b<18446744073709551616:=by unfold yU;split<;>omega
theorem rJ(t n u:Nat):qR t n u<18446744073709551616:=by unfold qR;split<;>exact IX _ _
theorem Iw(u:Nat): -1≤place u∧place u≤2:=by unfold place;split<;>(try split)<;>(try split)<;>omega
end Go.Proofs.Span
namespace Go.Proofs.Goto
open Go
def jumps(J:Nat→Act→World→Prop)(Q:Exit→Act→World→Prop):Exit→Act→World→Prop
  | .goto l,a,w=>J l a w
  |e,a,w=>Q e a w
theorem xK {P:Program} {a:Act} {w:World} {Q:Exit→Act→World→Prop} {c:Code} (J:Nat→Act→World→Prop) (μ:Nat→Act→World→Nat)
    (hf:∀l a w,J l a w→∃rest,findLabel c l=some rest)
    (first:c.wp P (jumps J Q) a w)
    (pass:∀l rest,findLabel c l=some rest→∀a w,J l a w→rest.wp P (jumps (fun l' a' w'=>J l' a' w'∧μ l' a' w'<μ l a w) Q) a w):(Code.scope c).wp P Q a w:=by
  intro b k cs;have ah:∀n l rest a w,findLabel c l=some rest→μ l a w=n→J l a w→∃e a' w',Q e a' w'∧Arrives P (lone (b.at a (.code rest:: .inScope c::k)) cs w) b k cs e a' w':=by
    intro n
    induction n using Nat.strongRecOn with
    |_ n ih=>
      intro l rest a w ag hn hJ;obtain⟨e,D,G,Z,I⟩:=pass l rest ag a w hJ b (.inScope c::k) cs;cases e with
      |normal=>exact⟨.normal,D,G,Z,Steps.trans I (.one step_inScope)⟩
      |exit id=>exact⟨.exit id,D,G,Z,fun k' hk=>I k' (by simp[exitTo,hk])⟩
      |goto l'=>
        obtain⟨af,_⟩:=Z;obtain⟨Y,U⟩:=hf l' D G af;obtain⟨aa,ab,ae,X,L⟩:=ih _ (by omega) l' Y D G U rfl af;exact⟨aa,ab,ae,X, .of_steps (I _ (by simp[gotoIn,U])) L⟩
      |ret=>exact⟨_,D,G,Z,I⟩
      |panic ch=>exact⟨_,D,G,Z,I⟩
      |outgrown=>exact⟨_,D,G,Z,I⟩
  obtain⟨e,D,G,Z,I⟩:=first b (.inScope c::k) cs
  cases e with
  |normal=>exact⟨.normal,D,G,Z, .head step_scope (Steps.trans I (.one step_inScope))⟩
  |exit id=>exact⟨.exit id,D,G,Z,fun k' hk=> .head step_scope (I k' (by simp[exitTo,hk]))⟩
  |goto l'=>
    obtain⟨Y,U⟩:=hf l' D G Z;obtain⟨aa,ab,ae,X,L⟩:=ah _ l' Y D G U rfl Z;exact⟨aa,ab,ae,X, .of_steps (.head step_scope (I _ (by simp[gotoIn,U]))) L⟩
  |ret=>exact⟨_,D,G,Z, .of_steps (.one step_scope) I⟩
  |panic ch=>exact⟨_,D,G,Z, .of_steps (.one step_scope) I⟩
  |outgrown=>exact⟨_,D,G,Z, .of_steps (.one step_scope) I⟩
theorem zO {P:Program} {a:Act} {w:World} {Q:Exit→Act→World→Prop} {c U r1 r2 Y:Code} (J:Nat→Act→World→Prop) (μ:Nat→Act→World→Nat)
    (L:findLabel c 0=some U) (h1:findLabel c 1=some r1) (h2:findLabel c 2=some r2) (X:findLabel c 3=some Y)
    (hl:∀l a w,J l a w→l<4)
    (first:c.wp P (jumps J Q) a w)
    (p0:∀a w,J 0 a w→U.wp P (jumps (fun l' a' w'=>J l' a' w'∧μ l' a' w'<μ 0 a w) Q) a w)
    (p1:∀a w,J 1 a w→r1.wp P (jumps (fun l' a' w'=>J l' a' w'∧μ l' a' w'<μ 1 a w) Q) a w)
    (Z:∀a w,J 2 a w→r2.wp P (jumps (fun l' a' w'=>J l' a' w'∧μ l' a' w'<μ 2 a w) Q) a w)
    (p3:∀a w,J 3 a w→Y.wp P (jumps (fun l' a' w'=>J l' a' w'∧μ l' a' w'<μ 3 a w) Q) a w):(Code.scope c).wp P Q a w:=by
  have G:∀l,l<4→l=0∨l=1∨l=2∨l=3:=fun l h=>by omega
  refine xK J μ ?_ first ?_
  · intro l a w D
    rcases G l (hl l a w D)with rfl|rfl|rfl|rfl
    · exact⟨_,L⟩
    · exact⟨_,h1⟩
    · exact⟨_,h2⟩
    · exact⟨_,X⟩
  · intro l rest I a w D
    rcases G l (hl l a w D)with rfl|rfl|rfl|rfl
    · obtain rfl:=Option.some.inj (I.symm.trans L);exact p0 a w D
    · obtain rfl:=Option.some.inj (I.symm.trans h1);exact p1 a w D
    · obtain rfl:=Option.some.inj (I.symm.trans h2);exact Z a w D
    · obtain rfl:=Option.some.inj (I.symm.trans X);exact p3 a w D
end Go.Proofs.Goto
