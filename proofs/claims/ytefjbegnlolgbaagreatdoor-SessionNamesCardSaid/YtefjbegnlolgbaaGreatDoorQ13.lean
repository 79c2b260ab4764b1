/-
DERIVED: THE SHELF's CONTRACTS AT THIS DUMP, IN PLAIN WORDS (tools/lay-plain.mjs out of 'TryzShelf.lean', which tools/lay-shelf.mjs wrote): THE SAME DECLARATIONS UNDER THE SAME NAMES: 'import', 'namespace', 'open', 'def', 'theorem' AND NOTHING ELSE: no command of the shelf's: FOR A HAND-IN. Each laying: the table of numbers ('.._ren') and one theorem, a field a fact of the dump's own or the kernel's comparison; each contract: ONE APPLICATION.
-/
import Derived.Ground.Names2Prog
import Derived.Ground.SlgnProg
import Derived.Lib.ConvBytes
import Derived.Shelf.Bits.Mul64
import Derived.Shelf.LaysC
import Derived.Shelf.LaysM
import Derived.Shelf.Slices.Cells
import Derived.Shelf.Slices.Clone
import Derived.Shelf.Slices.CompactI
import Derived.Shelf.Slices.CompactS
import Derived.Shelf.Slices.Empties
import Derived.Shelf.Slices.Reverse
import Derived.Shelf.Slices.ReverseS
import Derived.Shelf.Slices.SearchI
import Derived.Shelf.SlicesE.Clone
import Derived.Shelf.Small.Bits
import Derived.Shelf.Small.Strs
import Derived.Shelf.Small.Utf8
import Derived.Shelf.Strconv.AppendInt10
import Derived.Shelf.Strconv.AppendUint10
import Derived.Shelf.Strconv.Atoi
import Derived.Shelf.Strconv.AtoiAll
import Derived.Shelf.Strconv.AtoiErrFast
import Derived.Shelf.Strconv.AtoiFail
import Derived.Shelf.Strconv.AtoiInnerAll
import Derived.Shelf.Strconv.AtoiLong
import Derived.Shelf.Strconv.Clone
import Derived.Shelf.Strconv.ErrVarParseInt
import Derived.Shelf.Strconv.Itoa0
import Derived.Shelf.Strconv.Itoa1
import Derived.Shelf.Strconv.Itoa2
import Derived.Shelf.Strconv.Itoa3
import Derived.Shelf.Strconv.Itoa4
import Derived.Shelf.Strconv.Lower
import Derived.Shelf.Strconv.ParseInt10
import Derived.Shelf.Strconv.ParseInt10All
import Derived.Shelf.Strconv.ParseInt10At16
import Derived.Shelf.Strconv.ParseInt10At32
import Derived.Shelf.Strconv.ParseInt10At64
import Derived.Shelf.Strconv.ParseInt10At8
import Derived.Shelf.Strconv.ParseIntEmpty
import Derived.Shelf.Strconv.ParseIntPublic10
import Derived.Shelf.Strconv.ParseUint10
import Derived.Shelf.Strconv.ParseUint10Any
import Derived.Shelf.Strconv.ParseUint10At
import Derived.Shelf.Strconv.ParseUint10Empty
import Derived.Shelf.Strconv.ParseUint10b16
import Derived.Shelf.Strconv.ParseUint10b32
import Derived.Shelf.Strconv.ParseUint10b64
import Derived.Shelf.Strconv.ParseUint10b8
import Derived.Shelf.Strconv.ParseUintEmpty
import Derived.Shelf.Strconv.RangeError
import Derived.Shelf.Strconv.SyntaxError
import Derived.Shelf.Strconv.ToError
import Derived.Shelf.Strconv.ToErrorRange
import Derived.Shelf.Strings.Builder1
import Derived.Shelf.Strings.Builder2
import Derived.Shelf.Strings.Builder2Cap
import Derived.Shelf.Strings.BuilderCap
import Derived.Shelf.Strings.BuilderF
import Derived.Shelf.Strings.BuilderK
import Derived.Shelf.Strings.BuilderRune
import Derived.Shelf.Strings.CaseAny
import Derived.Shelf.Strings.MapAny
import Derived.Shelf.Strings.MapGrows
import Derived.Shelf.Strings.OnBuilder
import Derived.Shelf.Strings.Search1
import Derived.Shelf.Unicode.CaseConvert
import Derived.Shelf.Unicode.CaseLaid
import Derived.Shelf.Unicode.CaseLookup
import Derived.Shelf.Unicode.CaseTo
import Derived.Shelf.Unicode.DecodeAny
import Derived.Shelf.Unicode.DecodeSlow
import Derived.Shelf.Unicode.Latin
import Derived.Test.YtefjbegnlolgbaaGreatDoorQ10
set_option linter.unusedVariables false
set_option linter.unusedSimpArgs false
set_option maxRecDepth 100000
set_option maxHeartbeats 8000000
namespace Go.Proofs
open Go.Shelf
def Tryz.lays159_ren:Go.Shelf.Ren:=⟨fun|159=>33|165=>51|166=>52|167=>53|169=>54|230=>55|204=>56|240=>82|241=>83|197=>84|118=>85|168=>86|270=>87|262=>88|276=>138|277=>139|260=>140|242=>141|313=>142|278=>214|274=>215|275=>216|n=>n,fun|9=>9|4=>4|3=>3|5=>5|72=>132|0=>0|76=>135|75=>134|107=>140|70=>130|20=>20|37=>97|127=>171|21=>21|105=>172|164=>222|162=>228|203=>226|119=>298|46=>209|139=>301|138=>300|51=>274|160=>302|208=>365|206=>363|80=>138|n=>n,fun|13=>0|3=>2|4=>3|n=>n⟩
theorem Tryz.lays159:Go.Proofs.Lays.n159 Tryz.prog Tryz.lays159_ren:={
 mixed:=by kernel_rfl
 f118:=Tryz.func85.trans (congrArg some (by kernel_rfl))
 f159:=Tryz.func33.trans (congrArg some (by kernel_rfl))
 f165:=Tryz.func51.trans (congrArg some (by kernel_rfl))
 f166:=Tryz.func52.trans (congrArg some (by kernel_rfl))
 f167:=Tryz.func53.trans (congrArg some (by kernel_rfl))
 f168:=Tryz.func86.trans (congrArg some (by kernel_rfl))
 f169:=Tryz.func54.trans (congrArg some (by kernel_rfl))
 f197:=Tryz.func84.trans (congrArg some (by kernel_rfl))
 f204:=Tryz.func56.trans (congrArg some (by kernel_rfl))
 f230:=Tryz.func55.trans (congrArg some (by kernel_rfl))
 f240:=Tryz.func82.trans (congrArg some (by kernel_rfl))
 f241:=Tryz.func83.trans (congrArg some (by kernel_rfl))
 f242:=Tryz.func141.trans (congrArg some (by kernel_rfl))
 f260:=Tryz.func140.trans (congrArg some (by kernel_rfl))
 f262:=Tryz.func88.trans (congrArg some (by kernel_rfl))
 f270:=Tryz.func87.trans (congrArg some (by kernel_rfl))
 f274:=Tryz.func215.trans (congrArg some (by kernel_rfl))
 f275:=Tryz.func216.trans (congrArg some (by kernel_rfl))
 f276:=Tryz.func138.trans (congrArg some (by kernel_rfl))
 f277:=Tryz.func139.trans (congrArg some (by kernel_rfl))
 f278:=Tryz.func214.trans (congrArg some (by kernel_rfl))
 f313:=Tryz.func142.trans (congrArg some (by kernel_rfl))
 t0:=Tryz.underlying0
 a0:=Tryz.isAgg0
 z0:=Tryz.sizeOf0
 v0:=Tryz.zeroValue0
 t3:=Tryz.underlying3
 a3:=Tryz.isAgg3
 z3:=Tryz.sizeOf3
 v3:=Tryz.zeroValue3
 t4:=Tryz.underlying4
 a4:=Tryz.isAgg4
 z4:=Tryz.sizeOf4
 v4:=Tryz.zeroValue4
 t5:=Tryz.underlying5
 a5:=Tryz.isAgg5
 z5:=Tryz.sizeOf5
 v5:=Tryz.zeroValue5
 t9:=Tryz.underlying9
 a9:=Tryz.isAgg9
 z9:=Tryz.sizeOf9
 v9:=Tryz.zeroValue9
 t20:=Tryz.underlying20
 a20:=Tryz.isAgg20
 z20:=Tryz.sizeOf20
 v20:=Tryz.zeroValue20
 t21:=Tryz.underlying21
 a21:=Tryz.isAgg21
 z21:=Tryz.sizeOf21
 v21:=Tryz.zeroValue21
 t37:=Tryz.underlying97
 a37:=Tryz.isAgg97
 z37:=Tryz.sizeOf97
 v37:=Tryz.zeroValue97
 t46:=Tryz.underlying209
 a46:=Tryz.isAgg209
 z46:=Tryz.sizeOf209
 v46:=Tryz.zeroValue209
 t51:=Tryz.underlying274
 a51:=Tryz.isAgg274
 z51:=Tryz.sizeOf274
 v51:=Tryz.zeroValue274
 t70:=Tryz.underlying130
 a70:=Tryz.isAgg130
 z70:=Tryz.sizeOf130
 v70:=Tryz.zeroValue130
 t72:=Tryz.underlying132
 a72:=Tryz.isAgg132
 z72:=Tryz.sizeOf132
 v72:=Tryz.zeroValue132
 t75:=Tryz.underlying134
 a75:=Tryz.isAgg134
 z75:=Tryz.sizeOf134
 v75:=Tryz.zeroValue134
 t76:=Tryz.underlying135
 a76:=Tryz.isAgg135
 z76:=Tryz.sizeOf135
 v76:=Tryz.zeroValue135
 t105:=Tryz.underlying172
 a105:=Tryz.isAgg172
 z105:=Tryz.sizeOf172
 v105:=Tryz.zeroValue172
 t107:=Tryz.underlying140
 a107:=Tryz.isAgg140
 z107:=Tryz.sizeOf140
 v107:=Tryz.zeroValue140
 t119:=Tryz.underlying298
 a119:=Tryz.isAgg298
 z119:=Tryz.sizeOf298
 t127:=Tryz.underlying171
 a127:=Tryz.isAgg171
 z127:=Tryz.sizeOf171
 v127:=Tryz.zeroValue171
 t138:=Tryz.underlying300
 a138:=Tryz.isAgg300
 z138:=Tryz.sizeOf300
 v138:=Tryz.zeroValue300
 t139:=Tryz.underlying301
 a139:=Tryz.isAgg301
 z139:=Tryz.sizeOf301
 v139:=Tryz.zeroValue301
 t160:=Tryz.underlying302
 a160:=Tryz.isAgg302
 z160:=Tryz.sizeOf302
 v160:=Tryz.zeroValue302
 t162:=Tryz.underlying228
 a162:=Tryz.isAgg228
 z162:=Tryz.sizeOf228
 v162:=Tryz.zeroValue228
 t164:=Tryz.underlying222
 a164:=Tryz.isAgg222
 z164:=Tryz.sizeOf222
 v164:=Tryz.zeroValue222
 t203:=Tryz.underlying226
 a203:=Tryz.isAgg226
 z203:=Tryz.sizeOf226
 v203:=Tryz.zeroValue226
 t206:=Tryz.underlying363
 a206:=Tryz.isAgg363
 z206:=Tryz.sizeOf363
 v206:=Tryz.zeroValue363
 t208:=Tryz.underlying365
 a208:=Tryz.isAgg365
 z208:=Tryz.sizeOf365
 v208:=Tryz.zeroValue365
 g3:=by kernel_rfl
 g4:=by kernel_rfl
 g13:=by kernel_rfl}
theorem Tryz.Builder_Extra_159:Builder.Extra Tryz.prog Tryz.lays159_ren:={
 sizeBuilder:=by kernel_rfl
 liesBuilder:=by kernel_rfl
 t5:=Tryz.underlying5
 a5:=Tryz.isAgg5
 z5:=Tryz.sizeOf5
 v5:=Tryz.zeroValue5
 infoByte:=by kernel_rfl
 cellsByte:=by kernel_rfl
 sizeByte:=by kernel_rfl
 neB5:=by decide}
open Go.RowKit in
theorem Tryz.strings_ToLower_ascii (s:ByteArray) (w:World) (hs:s.size<=140737488355328) (hascii:∀(j:Nat) (b:UInt8),s.data.toList[j]? =some b->b.toNat<128):
 Calls Tryz.prog 33 #[.string s] w fun e w'=>e= .returned (.string ⟨(Lib.toLowerA s.data.toList).toArray⟩)/\Below w.heap.size w w':=Any.strings_ToLower_ascii Tryz.lays159 Tryz.Builder_Extra_159 s w hs hascii
def Tryz.laysM173_ren:Go.Shelf.Ren:=⟨fun|173=>271|246=>315|283=>338|284=>339|285=>340|286=>341|129=>190|317=>358|318=>359|319=>360|320=>361|337=>390|338=>391|n=>n,fun|2=>2|3=>3|9=>9|4=>4|171=>419|0=>0|53=>276|37=>97|5=>5|173=>421|212=>439|51=>274|20=>20|213=>440|46=>209|232=>471|233=>497|n=>n,fun|17=>7|18=>14|19=>15|n=>n⟩
theorem Tryz.laysM173:Go.Proofs.LaysM.n173 Tryz.prog Tryz.laysM173_ren:={
 mixed:=by kernel_rfl
 f129:=Tryz.func190.trans (congrArg some (by kernel_rfl))
 f173:=Tryz.func271.trans (congrArg some (by kernel_rfl))
 f246:=Tryz.func315.trans (congrArg some (by kernel_rfl))
 f283:=Tryz.func338.trans (congrArg some (by kernel_rfl))
 f284:=Tryz.func339.trans (congrArg some (by kernel_rfl))
 f285:=Tryz.func340.trans (congrArg some (by kernel_rfl))
 f286:=Tryz.func341.trans (congrArg some (by kernel_rfl))
 f317:=Tryz.func358.trans (congrArg some (by kernel_rfl))
 f318:=Tryz.func359.trans (congrArg some (by kernel_rfl))
 f319:=Tryz.func360.trans (congrArg some (by kernel_rfl))
 f320:=Tryz.func361.trans (congrArg some (by kernel_rfl))
 f337:=Tryz.func390.trans (congrArg some (by kernel_rfl))
 f338:=Tryz.func391.trans (congrArg some (by kernel_rfl))
 t0:=Tryz.underlying0
 a0:=Tryz.isAgg0
 z0:=Tryz.sizeOf0
 v0:=Tryz.zeroValue0
 t2:=Tryz.underlying2
 a2:=Tryz.isAgg2
 z2:=Tryz.sizeOf2
 v2:=Tryz.zeroValue2
 t3:=Tryz.underlying3
 a3:=Tryz.isAgg3
 z3:=Tryz.sizeOf3
 v3:=Tryz.zeroValue3
 t4:=Tryz.underlying4
 a4:=Tryz.isAgg4
 z4:=Tryz.sizeOf4
 v4:=Tryz.zeroValue4
 t5:=Tryz.underlying5
 a5:=Tryz.isAgg5
 z5:=Tryz.sizeOf5
 v5:=Tryz.zeroValue5
 t9:=Tryz.underlying9
 a9:=Tryz.isAgg9
 z9:=Tryz.sizeOf9
 v9:=Tryz.zeroValue9
 t20:=Tryz.underlying20
 a20:=Tryz.isAgg20
 z20:=Tryz.sizeOf20
 v20:=Tryz.zeroValue20
 t37:=Tryz.underlying97
 a37:=Tryz.isAgg97
 z37:=Tryz.sizeOf97
 v37:=Tryz.zeroValue97
 t46:=Tryz.underlying209
 a46:=Tryz.isAgg209
 z46:=Tryz.sizeOf209
 v46:=Tryz.zeroValue209
 t51:=Tryz.underlying274
 a51:=Tryz.isAgg274
 z51:=Tryz.sizeOf274
 v51:=Tryz.zeroValue274
 t53:=Tryz.underlying276
 a53:=Tryz.isAgg276
 z53:=Tryz.sizeOf276
 v53:=Tryz.zeroValue276
 t171:=Tryz.underlying419
 a171:=Tryz.isAgg419
 z171:=Tryz.sizeOf419
 v171:=Tryz.zeroValue419
 t173:=Tryz.underlying421
 a173:=Tryz.isAgg421
 z173:=Tryz.sizeOf421
 v173:=Tryz.zeroValue421
 t212:=Tryz.underlying439
 a212:=Tryz.isAgg439
 z212:=Tryz.sizeOf439
 v212:=Tryz.zeroValue439
 t213:=Tryz.underlying440
 a213:=Tryz.isAgg440
 z213:=Tryz.sizeOf440
 t232:=Tryz.underlying471
 a232:=Tryz.isAgg471
 z232:=Tryz.sizeOf471
 v232:=Tryz.zeroValue471
 t233:=Tryz.underlying497
 a233:=Tryz.isAgg497
 z233:=Tryz.sizeOf497
 v233:=Tryz.zeroValue497
 g17:=by kernel_rfl
 g18:=by kernel_rfl
 g19:=by kernel_rfl
 i0:=by kernel_rfl
 i2:=by kernel_rfl
 i3:=by kernel_rfl
 i4:=by kernel_rfl
 i5:=by kernel_rfl
 i9:=by kernel_rfl
 i20:=by kernel_rfl
 i37:=by kernel_rfl
 i46:=by kernel_rfl
 i51:=by kernel_rfl
 i53:=by kernel_rfl
 i171:=by kernel_rfl
 i173:=by kernel_rfl
 i212:=by kernel_rfl
 i232:=by kernel_rfl
 i233:=by kernel_rfl
 m17:=by kernel_rfl
 m18:=by kernel_rfl
 m19:=by kernel_rfl}
open Go.RowKit Go.Sort Go.Lib in
theorem Tryz.strconv_FormatInt_10 (n:Int) (h0: -9223372036854775808<=n) (h1:n<=9223372036854775807) (w:World) (htab:Lib.TabIs Tryz.prog w "internal/strconv.uint64pow10" .u64 Lib.pow10Tab):
 Calls Tryz.prog 271 #[.int .i64 n,.int .i64 10] w fun e w'=>e= .returned (.string ⟨(Lib.itoa n).toArray⟩)/\∃k os,w'=grow (w.drewN k) os:=Any.strconv_FormatInt_10 Tryz.laysM173 n h0 h1 w htab
def Tryz.laysC174_ren:Go.Shelf.Ren:=⟨fun|174=>226|247=>281|245=>282|287=>319|279=>320|280=>321|281=>322|282=>323|321=>344|322=>345|316=>346|171=>348|205=>347|243=>363|246=>315|283=>338|284=>339|285=>340|286=>341|129=>190|317=>358|318=>359|319=>360|320=>361|337=>390|338=>391|n=>n,fun|9=>9|3=>3|2=>2|75=>134|85=>313|4=>4|167=>405|5=>5|53=>276|175=>406|46=>209|168=>408|37=>97|0=>0|210=>427|21=>21|127=>171|145=>443|143=>441|171=>419|173=>421|212=>439|51=>274|20=>20|213=>440|232=>471|233=>497|80=>138|n=>n,fun|15=>5|16=>6|17=>7|18=>14|19=>15|n=>n⟩
theorem Tryz.laysC174:Go.Proofs.LaysC.n174 Tryz.prog Tryz.laysC174_ren:={
 mixed:=by kernel_rfl
 f129:=Tryz.func190.trans (congrArg some (by kernel_rfl))
 f171:=Tryz.func348.trans (congrArg some (by kernel_rfl))
 f174:=Tryz.func226.trans (congrArg some (by kernel_rfl))
 f205:=Tryz.func347.trans (congrArg some (by kernel_rfl))
 f243:=Tryz.func363.trans (congrArg some (by kernel_rfl))
 f245:=Tryz.func282.trans (congrArg some (by kernel_rfl))
 f246:=Tryz.func315.trans (congrArg some (by kernel_rfl))
 f247:=Tryz.func281.trans (congrArg some (by kernel_rfl))
 f279:=Tryz.func320.trans (congrArg some (by kernel_rfl))
 f280:=Tryz.func321.trans (congrArg some (by kernel_rfl))
 f281:=Tryz.func322.trans (congrArg some (by kernel_rfl))
 f282:=Tryz.func323.trans (congrArg some (by kernel_rfl))
 f283:=Tryz.func338.trans (congrArg some (by kernel_rfl))
 f284:=Tryz.func339.trans (congrArg some (by kernel_rfl))
 f285:=Tryz.func340.trans (congrArg some (by kernel_rfl))
 f286:=Tryz.func341.trans (congrArg some (by kernel_rfl))
 f287:=Tryz.func319.trans (congrArg some (by kernel_rfl))
 f316:=Tryz.func346.trans (congrArg some (by kernel_rfl))
 f317:=Tryz.func358.trans (congrArg some (by kernel_rfl))
 f318:=Tryz.func359.trans (congrArg some (by kernel_rfl))
 f319:=Tryz.func360.trans (congrArg some (by kernel_rfl))
 f320:=Tryz.func361.trans (congrArg some (by kernel_rfl))
 f321:=Tryz.func344.trans (congrArg some (by kernel_rfl))
 f322:=Tryz.func345.trans (congrArg some (by kernel_rfl))
 f337:=Tryz.func390.trans (congrArg some (by kernel_rfl))
 f338:=Tryz.func391.trans (congrArg some (by kernel_rfl))
 t0:=Tryz.underlying0
 a0:=Tryz.isAgg0
 z0:=Tryz.sizeOf0
 v0:=Tryz.zeroValue0
 t2:=Tryz.underlying2
 a2:=Tryz.isAgg2
 z2:=Tryz.sizeOf2
 v2:=Tryz.zeroValue2
 t3:=Tryz.underlying3
 a3:=Tryz.isAgg3
 z3:=Tryz.sizeOf3
 v3:=Tryz.zeroValue3
 t4:=Tryz.underlying4
 a4:=Tryz.isAgg4
 z4:=Tryz.sizeOf4
 v4:=Tryz.zeroValue4
 t5:=Tryz.underlying5
 a5:=Tryz.isAgg5
 z5:=Tryz.sizeOf5
 v5:=Tryz.zeroValue5
 t9:=Tryz.underlying9
 a9:=Tryz.isAgg9
 z9:=Tryz.sizeOf9
 v9:=Tryz.zeroValue9
 t20:=Tryz.underlying20
 a20:=Tryz.isAgg20
 z20:=Tryz.sizeOf20
 v20:=Tryz.zeroValue20
 t21:=Tryz.underlying21
 a21:=Tryz.isAgg21
 z21:=Tryz.sizeOf21
 v21:=Tryz.zeroValue21
 t37:=Tryz.underlying97
 a37:=Tryz.isAgg97
 z37:=Tryz.sizeOf97
 v37:=Tryz.zeroValue97
 t46:=Tryz.underlying209
 a46:=Tryz.isAgg209
 z46:=Tryz.sizeOf209
 v46:=Tryz.zeroValue209
 t51:=Tryz.underlying274
 a51:=Tryz.isAgg274
 z51:=Tryz.sizeOf274
 v51:=Tryz.zeroValue274
 t53:=Tryz.underlying276
 a53:=Tryz.isAgg276
 z53:=Tryz.sizeOf276
 v53:=Tryz.zeroValue276
 t75:=Tryz.underlying134
 a75:=Tryz.isAgg134
 z75:=Tryz.sizeOf134
 v75:=Tryz.zeroValue134
 t85:=Tryz.underlying313
 a85:=Tryz.isAgg313
 z85:=Tryz.sizeOf313
 v85:=Tryz.zeroValue313
 t127:=Tryz.underlying171
 a127:=Tryz.isAgg171
 z127:=Tryz.sizeOf171
 v127:=Tryz.zeroValue171
 t143:=Tryz.underlying441
 a143:=Tryz.isAgg441
 z143:=Tryz.sizeOf441
 v143:=Tryz.zeroValue441
 t145:=Tryz.underlying443
 a145:=Tryz.isAgg443
 z145:=Tryz.sizeOf443
 v145:=Tryz.zeroValue443
 t167:=Tryz.underlying405
 a167:=Tryz.isAgg405
 z167:=Tryz.sizeOf405
 v167:=Tryz.zeroValue405
 t168:=Tryz.underlying408
 a168:=Tryz.isAgg408
 z168:=Tryz.sizeOf408
 v168:=Tryz.zeroValue408
 t171:=Tryz.underlying419
 a171:=Tryz.isAgg419
 z171:=Tryz.sizeOf419
 v171:=Tryz.zeroValue419
 t173:=Tryz.underlying421
 a173:=Tryz.isAgg421
 z173:=Tryz.sizeOf421
 v173:=Tryz.zeroValue421
 t175:=Tryz.underlying406
 a175:=Tryz.isAgg406
 z175:=Tryz.sizeOf406
 v175:=Tryz.zeroValue406
 t210:=Tryz.underlying427
 a210:=Tryz.isAgg427
 z210:=Tryz.sizeOf427
 v210:=Tryz.zeroValue427
 t212:=Tryz.underlying439
 a212:=Tryz.isAgg439
 z212:=Tryz.sizeOf439
 v212:=Tryz.zeroValue439
 t213:=Tryz.underlying440
 a213:=Tryz.isAgg440
 z213:=Tryz.sizeOf440
 t232:=Tryz.underlying471
 a232:=Tryz.isAgg471
 z232:=Tryz.sizeOf471
 v232:=Tryz.zeroValue471
 t233:=Tryz.underlying497
 a233:=Tryz.isAgg497
 z233:=Tryz.sizeOf497
 v233:=Tryz.zeroValue497
 g15:=by kernel_rfl
 g16:=by kernel_rfl
 g17:=by kernel_rfl
 g18:=by kernel_rfl
 g19:=by kernel_rfl
 t80:=Tryz.underlying138
 a80:=Tryz.isAgg138
 z80:=Tryz.sizeOf138
 v80:=Tryz.zeroValue138
 i0:=by kernel_rfl
 i2:=by kernel_rfl
 i3:=by kernel_rfl
 i4:=by kernel_rfl
 i5:=by kernel_rfl
 i9:=by kernel_rfl
 i20:=by kernel_rfl
 i21:=by kernel_rfl
 i37:=by kernel_rfl
 i46:=by kernel_rfl
 i51:=by kernel_rfl
 i53:=by kernel_rfl
 i75:=by kernel_rfl
 i80:=by kernel_rfl
 i85:=by kernel_rfl
 i127:=by kernel_rfl
 i143:=by kernel_rfl
 i145:=by kernel_rfl
 i167:=by kernel_rfl
 i168:=by kernel_rfl
 i171:=by kernel_rfl
 i173:=by kernel_rfl
 i175:=by kernel_rfl
 i210:=by kernel_rfl
 i212:=by kernel_rfl
 i232:=by kernel_rfl
 i233:=by kernel_rfl
 m15:=by kernel_rfl
 m16:=by kernel_rfl
 m17:=by kernel_rfl
 m18:=by kernel_rfl
 m19:=by kernel_rfl
 c0:=by kernel_rfl
 c2:=by kernel_rfl
 c3:=by kernel_rfl
 c4:=by kernel_rfl
 c5:=by kernel_rfl
 c9:=by kernel_rfl
 c20:=by kernel_rfl
 c21:=by kernel_rfl
 c37:=by kernel_rfl
 c46:=by kernel_rfl
 c51:=by kernel_rfl
 c53:=by kernel_rfl
 c75:=by kernel_rfl
 c80:=by kernel_rfl
 c85:=by kernel_rfl
 c127:=by kernel_rfl
 c143:=by kernel_rfl
 c145:=by kernel_rfl
 c167:=by kernel_rfl
 c168:=by kernel_rfl
 c171:=by kernel_rfl
 c173:=by kernel_rfl
 c175:=by kernel_rfl
 c210:=by kernel_rfl
 c212:=by kernel_rfl
 c213:=by kernel_rfl
 c232:=by kernel_rfl
 c233:=by kernel_rfl}
open Go.RowKit in
theorem Tryz.strconv_ParseInt_10_at64_ok (s:ByteArray) (hmax:s.size<=9223372036854775806) (v:Int) (h:Lib.parseIntB 64 s.data.toList= .ok v) (w:World):
 Calls Tryz.prog 226 #[.string s,.int .i64 10,.int .i64 64] w fun e w'=>e= .returned (.tuple #[.int .i64 v,.nilIface])/\(w'=w\/∃t,w'=Lib.bytesWorld w 5 t):=Any.strconv_ParseInt_10_at64_ok Tryz.laysC174 s hmax v h w
open Go.RowKit in
theorem Tryz.strconv_ParseInt_10_at64_syntax_var (s:ByteArray) (hlim:s.size<=281474976710656) (h:Lib.parseIntB 64 s.data.toList=Lib.NumEnd.syntax) (tp:TypeId) (p:Value) (w:World) (hvar:w.var? Tryz.prog "strconv.ErrSyntax"=some #[.iface tp p]):
 Calls Tryz.prog 226 #[.string s,.int .i64 10,.int .i64 64] w fun e w'=>∃N,e= .returned (.tuple #[.int .i64 (0),.iface 408 (.pointer (some ⟨N,0,none⟩))])/\w.heap.size<=N/\w'.heap[N]? =some (.cells #[.string ⟨#[80,97,114,115,101,73,110,116]⟩,.string s,.iface tp p] 427 (0,0))/\Below w.heap.size w w':=Any.strconv_ParseInt_10_at64_syntax_var Tryz.laysC174 s hlim h tp p w hvar
open Go.RowKit in
theorem Tryz.strconv_ParseInt_10_at64_range_var (s:ByteArray) (hlim:s.size<=281474976710656) (h:Lib.parseIntB 64 s.data.toList= .range) (tp:TypeId) (p:Value) (w:World) (hvar:w.var? Tryz.prog "strconv.ErrRange"=some #[.iface tp p]):
 Calls Tryz.prog 226 #[.string s,.int .i64 10,.int .i64 64] w fun e w'=>∃N,e= .returned (.tuple #[.int .i64 (Lib.intSat 64 s.data.toList),.iface 408 (.pointer (some ⟨N,0,none⟩))])/\w.heap.size<=N/\w'.heap[N]? =some (.cells #[.string ⟨#[80,97,114,115,101,73,110,116]⟩,.string s,.iface tp p] 427 (0,0))/\Below w.heap.size w w':=Any.strconv_ParseInt_10_at64_range_var Tryz.laysC174 s hlim h tp p w hvar
end Go.Proofs
namespace Go.Proofs.YtefjbegnlolgbaaGreatDoor
open Go Go.RowKit Go.Sort
variable {w0 w:World}{r:Hp}
structure J1q (w:World):Prop where
 syn:∃tp p,w.var? Tryz.prog "strconv.ErrSyntax"=some #[.iface tp p]
 rng:∃tp p,w.var? Tryz.prog "strconv.ErrRange"=some #[.iface tp p]
 tab:Lib.TabIs Tryz.prog w "internal/strconv.uint64pow10" .u64 Lib.pow10Tab
theorem J9x (hS:J1 w0 [] w r) {n:String} {cs:Array Value} (h:w0.var? Tryz.prog n=some cs):w.var? Tryz.prog n=some cs:=by
 unfold World.var? at h⊢;cases hg:Tryz.prog.globalNamed n with
 |none=>rw[hg] at h;cases h
 |some g=>
  rw[hg] at h;simp only[Option.bind_some] at h⊢;cases hh:w0.heap[g]? with
  |none=>rw[hh] at h;cases h
  |some o=>rw[hS.same g (Jc hh) (by simp)];exact h
theorem J1q.keep (h:J1q w0) (hS:J1 w0 [] w r):J1q w:=
 ⟨let ⟨tp,p,hv⟩:=h.syn;⟨tp,p,J9x hS hv⟩,let ⟨tp,p,hv⟩:=h.rng;⟨tp,p,J9x hS hv⟩,J9x hS h.tab⟩
theorem J1.below {w':World} {l:Hp} (hS:J1 w0 l w r) (hb:Below w.heap.size w w'):J1 w0 l w' r:=by
 have k:J1 w r w' r:=⟨hb.os,hb.output,hb.size,⟨fun p hp=>by rw[hb.block p.1 (hS.own.lt (List.mem_map_of_mem hp))];exact hS.own.at_ p hp,hS.own.nd⟩,fun b hb' _=>hb.block b hb',fun b hb'=>.inl hb'⟩
 exact hS.trans k
theorem J1.growN {l:Hp} (hS:J1 w0 l w r) (k:Nat) (os:Array Obj):J1 w0 l (grow (w.drewN k) os) r:=by
 refine hS.below ⟨rfl,rfl,rfl,?_,fun i hi=>?_⟩
 ·show w.heap.size<=(w.heap++os).size
  simp
 ·show(w.heap++os)[i]? =_
  rw[Array.getElem?_append_left hi]
theorem Jba (hS:J1 w0 [] w r) (hG:J1q w0) (n:Int) (h0: -9223372036854775808<=n) (h1:n<=9223372036854775807):
 Calls Tryz.prog 210 #[.int .i64 n] w fun e w'=>e= .returned (.string (J5u n))/\J1 w0 [] w' r:=by
 have hc:=hid (Tryz.strconv_FormatInt_10 n h0 h1 w (hG.keep hS).tab);go_enter Tryz.func210,Tryz.ntmps210;go_wp2_with fail;refine hc.out.mono ?_;rintro e w1 ⟨rfl,k,os,rfl⟩;go_wp2_with fail;go_ret;exact⟨rfl,hS.growN k os⟩
def J9z (o:Option Int):Int:=if o.isSome then 0 else 11
theorem J64 (hS:J1 w0 [] w r) (hG:J1q w0) (s:ByteArray) (hs:s.size<=1099511627776):
 Calls Tryz.prog 151 #[.string s] w fun e w'=>e= .returned (.tuple #[.int .i64 ((J2n s).getD 0),.int .i64 (J9z (J2n s))])/\J1 w0 [] w' r:=by
 cases hp:Lib.parseIntB 64 s.data.toList with
 |ok v=>
  have hb:=Lib.parseIntB_bounds hp;have hc:=hid (Tryz.strconv_ParseInt_10_at64_ok s (by omega) v hp w)
  have hv: -9223372036854775808<=v/\v<=9223372036854775807:=by
   have e:((2 ^(64 - 1):Nat):Int)=9223372036854775808:=by decide
   rw[e] at hb;omega
  clear hb;by_cases he:J5u v=s
  ·have hw:=hid (show J2n s=some v by unfold J2n;rw[hp];simp only;rw[if_pos he])
   have ht:=Jc2 he;clear hp he;go_enter Tryz.func151,Tryz.ntmps151;go_wp2_with fail;refine hc.out.mono ?_;rintro e w1 ⟨rfl,hw1⟩
   have S1:J1 w0 [] w1 r:=by
    rcases hw1 with rfl|⟨t,rfl⟩
    ·exact hS
    ·exact hS.below (Lib.bytesWorld_below _ _ _)
   clear hw1;have hcall:=hid (Jba S1 hG v hv.1 hv.2);clear S1;go_wp2_with fail;refine hcall.out.mono ?_;rintro e w2 ⟨rfl,S2⟩;replace S2:=hid S2;go_wp2_with fail;go_ret2;rw[hw.out];exact⟨rfl,S2.out⟩
  ·have hw:=hid (show J2n s=none by unfold J2n;rw[hp];simp only;rw[if_neg he])
   have ht:=J6o he;clear hp he;go_enter Tryz.func151,Tryz.ntmps151;go_wp2_with fail;refine hc.out.mono ?_;rintro e w1 ⟨rfl,hw1⟩
   have S1:J1 w0 [] w1 r:=by
    rcases hw1 with rfl|⟨t,rfl⟩
    ·exact hS
    ·exact hS.below (Lib.bytesWorld_below _ _ _)
   clear hw1;have hcall:=hid (Jba S1 hG v hv.1 hv.2);clear S1;go_wp2_with fail;refine hcall.out.mono ?_;rintro e w2 ⟨rfl,S2⟩;replace S2:=hid S2;go_wp2_with fail;go_ret2;rw[hw.out];exact⟨rfl,S2.out⟩
 |range=>
  have hw:=hid (show J2n s=none by unfold J2n;rw[hp])
  obtain⟨tp,p,hv⟩:=(hG.keep hS).rng
  have hc:=hid (Tryz.strconv_ParseInt_10_at64_range_var s (by omega) hp tp p w hv)
  clear hp hv;generalize Lib.intSat 64 s.data.toList=sat at hc;go_enter Tryz.func151,Tryz.ntmps151;go_wp2_with fail;refine hc.out.mono ?_;rintro e w1 ⟨N,rfl,_,_,hb⟩;have S1:=hid (hS.below hb);clear hb;go_wp2_with fail;go_ret2;rw[hw.out];exact⟨rfl,S1.out⟩
 |_=>
  have hw:=hid (show J2n s=none by unfold J2n;rw[hp])
  obtain⟨tp,p,hv⟩:=(hG.keep hS).syn
  have hc:=hid (Tryz.strconv_ParseInt_10_at64_syntax_var s (by omega) hp tp p w hv)
  clear hp hv;go_enter Tryz.func151,Tryz.ntmps151;go_wp2_with fail;refine hc.out.mono ?_;rintro e w1 ⟨N,rfl,_,_,hb⟩;have S1:=hid (hS.below hb);clear hb;go_wp2_with fail;go_ret2;rw[hw.out];exact⟨rfl,S1.out⟩
def J4k (a b:Int):Option Int:=if -9223372036854775808<=a+b/\a+b<=9223372036854775807 then some (a+b) else none
def Jec (o:Option Int):Int:=if o.isSome then 0 else 12
theorem Jeb (a b:Int) (w:World) (ha: -9223372036854775808<=a/\a<=9223372036854775807) (hb: -9223372036854775808<=b/\b<=9223372036854775807):
 Calls Tryz.prog 224 #[.int .i64 a,.int .i64 b] w fun e w'=>e= .returned (.tuple #[.int .i64 ((J4k a b).getD 0),.int .i64 (Jec (J4k a b))])/\w'=w:=by
 obtain⟨a0,a1⟩:=ha
 obtain⟨b0,b1⟩:=hb
 rcases Int.lt_trichotomy b 0 with h|h|h
 ·by_cases h2:a< -9223372036854775808 - b
  ·have hw:=hid (show J4k a b=none by unfold J4k;rw[if_neg (by omega)])
   go_enter Tryz.func224,Tryz.ntmps224;go_wp2_with fail;go_ret2;rw[hw.out];exact⟨rfl,rfl⟩
  ·have hw:=hid (show J4k a b=some (a+b) by unfold J4k;rw[if_pos (by omega)])
   have hs0: -9223372036854775808<=a+b:=by omega
   have hs1:a+b<=9223372036854775807:=by omega
   go_enter Tryz.func224,Tryz.ntmps224;go_wp2_with fail;go_ret2;rw[hw.out];exact⟨rfl,rfl⟩
 ·subst h
  have hw:=hid (show J4k a 0=some a by unfold J4k;rw[if_pos (by omega)];simp)
  go_enter Tryz.func224,Tryz.ntmps224;go_wp2_with fail;go_ret2;rw[hw.out];exact⟨rfl,rfl⟩
 ·by_cases h2:9223372036854775807 - b<a
  ·have hw:=hid (show J4k a b=none by unfold J4k;rw[if_neg (by omega)])
   go_enter Tryz.func224,Tryz.ntmps224;go_wp2_with fail;go_ret2;rw[hw.out];exact⟨rfl,rfl⟩
  ·have hw:=hid (show J4k a b=some (a+b) by unfold J4k;rw[if_pos (by omega)])
   have hs0: -9223372036854775808<=a+b:=by omega
   have hs1:a+b<=9223372036854775807:=by omega
   go_enter Tryz.func224,Tryz.ntmps224;go_wp2_with fail;go_ret2;rw[hw.out];exact⟨rfl,rfl⟩
end Go.Proofs.YtefjbegnlolgbaaGreatDoor
namespace Go.Proofs.YtefjbegnlolgbaaGreatDoor
open Go Go.RowKit
variable {w0 w:World}{l r:Hp}{v:Value}{sb bud:Nat}
theorem Jgz {sl:Hp} {it:Itm} (hS:J1 w0 l w (sl++r)) (hat:Jq v it.fs sl) (hr:J1c it):
 Calls Tryz.prog 218 #[J8 it.kind it.text v] w fun e w'=>e= .returned (.bool true)/\J1 w0 l w' (sl++r):=by
 obtain⟨kind,text,fs⟩:=it
 rcases hr with⟨hk,ht,hf⟩|⟨hk,ht,hrise,h1,h2,hf⟩
 ·simp only at hk ht hf hat⊢
  subst hk hf;obtain rfl:=hat.nil rfl;exact Jf0 hS ht
 ·simp only at hk ht hrise h1 h2 hf hat⊢
  subst hk ht;obtain⟨g,cap,rest,rfl,hc,hc2,rfl,hrest⟩:=hat.sl.view (by omega)
  exact Jey hS hrise h1 h2 hf
theorem J85 (fs:Fs) (k:Nat) (f:ByteArray×ByteArray) (h:fs[k]? =some f):Jm (fs.take (k+1))=Jm (fs.take k)+(16+f.1.size+f.2.size):=by
 obtain⟨hk,rfl⟩:=List.getElem?_eq_some_iff.1 h
 rw[List.take_succ_eq_append_getElem hk];simp only[Jm,List.map_append,List.sum_append,List.map_cons,List.map_nil,List.sum_cons,List.sum_nil,Nat.add_zero]
theorem J5p (fs:Fs) (k:Nat):Jm (fs.take k)<=Jm fs:=by
 have:Jm fs=Jm (fs.take k)+Jm (fs.drop k):=by
  conv=>lhs;rw[<-List.take_append_drop k fs]
  simp only[Jm,List.map_append,List.sum_append]
 omega
theorem Jg8 {key text:ByteArray} (hS:J1 w0 [] w r) (hG:J1q w0) (hk:key.size<=1099511627776) (ht:text.size<=1099511627776):
 Calls Tryz.prog 219 #[.string key,J8 1 text v] w fun e w'=>e= .returned (.int .i64 (J0r key ⟨1,text,[]⟩:Nat))/\J1 w0 [] w' r:=by
 have S1:=hS.alloc (.cells #[.int .i64 1,.string text,v] 183);have hcall:=hid (J64 S1 hG text ht);clear hS S1;cases hn:J2n text with
 |some n=>
  have hc:=hid (show(J0r key ⟨1,text,[]⟩:Int)=48+(key.size:Int)+8 by simp[J0r,hn])
  rw[hn] at hcall;go_enter Tryz.func219,Tryz.ntmps219;unfold J8;go_wp2_with fail;refine hcall.out.mono ?_;rintro e w2 ⟨rfl,S2⟩;have c1:=(J04 S2.own.head).c1;have S3:=hid (S2.less (List.sublist_cons_self _ _));simp only[J9z,Option.isSome_some,if_true];clear S2 hcall;replace hn:=hid hn;go_wp2_with fail;go_ret;rw[hc.out];exact⟨rfl,S3.out⟩
 |none=>
  have hc:=hid (show(J0r key ⟨1,text,[]⟩:Int)=48+(key.size:Int)+text.size by simp[J0r,hn])
  rw[hn] at hcall;go_enter Tryz.func219,Tryz.ntmps219;unfold J8;go_wp2_with fail;refine hcall.out.mono ?_;rintro e w2 ⟨rfl,S2⟩;have c1:=(J04 S2.own.head).c1;have S3:=hid (S2.less (List.sublist_cons_self _ _));simp only[J9z,Option.isSome_none,Bool.false_eq_true,if_false];clear S2 hcall;replace hn:=hid hn;go_wp2_with fail;go_ret;rw[hc.out];exact⟨rfl,S3.out⟩
theorem Jg7 {sl:Hp} {key text:ByteArray} {kind:Int} {fs:Fs} (hkd:(kind==1)=false) (hS:J1 w0 l w (sl++r)) (hat:Jq v fs sl) (hk:key.size<=1099511627776) (hB:fs.length<=1048576) (hf:Jm fs<=1099511627776):
 Calls Tryz.prog 219 #[.string key,J8 kind text v] w fun e w'=>e= .returned (.int .i64 (48+key.size+Jm fs:Nat))/\J1 w0 l w' (sl++r):=by
 obtain⟨a,c,rfl⟩:=hat.shape
 have S1:=hid (hS.alloc (.cells #[.int .i64 kind,.string text,.slice a fs.length c] 183));have hat':=hid hat;clear hS hat;go_enter Tryz.func219,Tryz.ntmps219;unfold J8;go_wp2_with fail;generalize hw1:w.alloc (.cells #[.int .i64 kind,.string text,.slice a fs.length c] 183)=w1 at S1⊢;replace S1:=hid (S1.out.less (List.sublist_cons_self _ _));clear hw1;go_loopw [5,34] (fun n i wr=>∃k:Nat,k<=fs.length/\n= .int .i64 (48+key.size+Jm (fs.take k):Nat)/\i= .int .i64 k/\Hid (J1 w0 l wr (sl++r))) (fun _ i wr=>fs.length - (intOf i).toNat)
 case atStart=>exact⟨0,Nat.zero_le _,by simp[Jm],rfl,S1⟩
 case round=>
  obtain⟨k,hk',rfl,rfl,hS2⟩:=hrel
  have hle:=J5p fs k;by_cases hlt:k<fs.length
  ·obtain⟨f,hfk⟩:∃f:ByteArray×ByteArray,fs[k]? =some f:=⟨fs[k],List.getElem?_eq_getElem _⟩
   obtain⟨g,cap,rest,hsl,hc,hc2,rfl,hrest⟩:=hat'.out.sl.view (by omega)
   injection hsl with h1 h2 h3
   subst h1 h3;have hb:=hS2.out.own.head;have hgl:=Jc hb;have hcm:=J2t fs k f hfk;have hlen:=J2i fs
   have b0:wr.cell? ⟨g,k*2,none⟩=some (.string f.1):=by
    rw[J0 hb,List.getElem?_toArray,List.getElem?_append_left (by omega),Nat.mul_comm,hcm.1]
   have b1:wr.cell? ⟨g,k*2+1,none⟩=some (.string f.2):=by
    rw[J0 hb,List.getElem?_toArray,List.getElem?_append_left (by omega),Nat.mul_comm,hcm.2]
   have hsn:=J85 fs k f hfk;have hle2:=J5p fs (k+1);have S3:=hid ((hS2.out.alloc (.cells #[.string f.1,.string f.2] 328)).less (List.sublist_cons_self _ _));have hrel:Hid (48+key.size+Jm (fs.take (k+1))=48+key.size+Jm (fs.take k)+(16+f.1.size+f.2.size)):=hid (by omega)
   have hbd:48+key.size+Jm (fs.take k)+(16+f.1.size+f.2.size)<=4611686018427387904:=by omega
   clear hb hcm hlen hsn hle2 hle hfk;generalize 48+key.size+Jm (fs.take k)=m at hrel hbd⊢;go_wp2_with fail;go_roundw
   case rel=>exact⟨k+1,by omega,by rw[hrel.out];go_num,by go_num,S3⟩
   case measure=>simp[intOf];omega
  ·obtain rfl:k=fs.length:=by omega
   rw[List.take_length];go_wp2_with fail;go_ret;exact⟨rfl,hS2.out⟩
structure J0t where
 key:ByteArray
 at_:Nat
 it:Itm
structure J2m where
 it:Itm
 v:Value
 hp:Hp
def J7b (s:J2m):List Value:=[.int .i64 s.it.kind,.string s.it.text,s.v]
def Jb (ss:List J2m):List Value:=ss.flatMap J7b
def Ko (ss:List J2m):Hp:=ss.flatMap J2m.hp
def J1w (es:List (Int×ByteArray)):List Value:=es.flatMap fun e=>[.int .i64 e.1,.string e.2]
def J0s (fr:List Nat):List Value:=fr.map fun n:Nat=>.int .i64 (n:Int)
def K5:J2m:=⟨Jt,.slice none 0 0,[]⟩
structure SM where
 tb:Nat
 rb:Nat
 xb:Nat
 sv:Value
 fv:Value
 vv:Value
 tl:Hp
 rl:Hp
 xl:Hp
 shp:Hp
 fhp:Hp
 vhp:Hp
 M:KV
 cs:List J0t
 ss:List J2m
 fr:List Nat
variable {m:SM}
abbrev J0m (m:SM) (n bud:Nat):Obj:=.cells #[ptr m.tb,m.sv,m.fv,ptr m.rb,ptr m.xb,.int .i64 n,.int .i64 bud,m.vv] 76 (0,0)
def SM.rest (m:SM):Hp:=m.tl++(m.rl++(m.xl++(m.shp++(m.fhp++(m.vhp++Ko m.ss)))))
def SM.hp (m:SM) (sb n bud:Nat):Hp:=(sb,J0m m n bud)::m.rest
structure SM.Ok (m:SM) (S:St):Prop where
 tab:Jv m.tl m.tb m.M 0
 rcn:Jj m.rl m.rb (m.cs.map J0t.key)
 exp:K1 m.xl m.xb S.D
 slots:SliceHp 3 183 m.sv m.ss.length (Jb m.ss) m.shp
 free:SliceHp 1 3 m.fv m.fr.length (J0s m.fr) m.fhp
 evs:SliceHp 2 146 m.vv S.ev.length (J1w S.ev) m.vhp
 cells:S.L=m.cs.map fun c=>(c.key,c.it)
 num:m.M.Perm (m.cs.map fun c=>(c.key,(c.at_:Int)))
 holds:∀c∈m.cs,∃s,m.ss[c.at_]? =some s/\s.it=c.it
 all:(m.fr++m.cs.map J0t.at_).Perm (List.range m.ss.length)
 each:∀s∈m.ss,Jq s.v s.it.fs s.hp
 few:m.ss.length<=68719476736
def Je (l:Hp) (sb:Nat) (S:St):Prop:=∃m:SM,l=m.hp sb (J4 S.L) S.bud/\m.Ok S/\Fit S
structure Jbe (w:World) (sb:Nat) (m:SM) (n bud:Nat):Prop where
 c0:w.cell? ⟨sb,0,none⟩=some (ptr m.tb)
 c1:w.cell? ⟨sb,1,none⟩=some m.sv
 c2:w.cell? ⟨sb,2,none⟩=some m.fv
 c3:w.cell? ⟨sb,3,none⟩=some (ptr m.rb)
 c4:w.cell? ⟨sb,4,none⟩=some (ptr m.xb)
 c5:w.cell? ⟨sb,5,none⟩=some (.int .i64 n)
 c6:w.cell? ⟨sb,6,none⟩=some (.int .i64 bud)
 c7:w.cell? ⟨sb,7,none⟩=some m.vv
 fz:∀j,w.frozen? ⟨sb,j,none⟩=false
theorem Ju {n:Nat} (h:Own w (m.hp sb n bud++r)):Jbe w sb m n bud:=by
 have hh:w.heap[sb]? =some (J0m m n bud):=h.left.head;exact⟨J0 hh 0,J0 hh 1,J0 hh 2,J0 hh 3,J0 hh 4,J0 hh 5,J0 hh 6,J0 hh 7,fun j=>J6 hh j⟩
theorem J0f {n:Nat} (f:Nat×Obj->Nat):((m.hp sb n bud++r).map f).sum=f (sb,J0m m n bud)+(m.tl.map f).sum+(m.rl.map f).sum+(m.xl.map f).sum+(m.shp.map f).sum+(m.fhp.map f).sum+(m.vhp.map f).sum+((Ko m.ss).map f).sum+(r.map f).sum:=by
 simp only[SM.hp,SM.rest,List.map_append,List.sum_append,List.map_cons,List.sum_cons,List.cons_append];omega
theorem J1.turn {w':World} {A A' B a a':Hp} (h:J1 w0 l w A) (p:∀f:Nat×Obj->Nat,(A.map f).sum=(a.map f).sum+(B.map f).sum) (k:J1 w a w' a') (q:∀f:Nat×Obj->Nat,(A'.map f).sum=(a'.map f).sum+(B.map f).sum):J1 w0 l w' A':=
 (h.part (a:=a) (r:=B) (J2 fun f=>by rw[p f,List.map_append,List.sum_append]) k).permR (J2 fun f=>by rw[q f,List.map_append,List.sum_append])
theorem Jm1:(Tryz.prog.info? 146).map (fun i=>(i.zero,i.size,i.bytes))=some (some (.agg #[.int .i64 0,.string ByteArray.empty]),2,24):=by kernel_rfl
theorem Jbl (es:List (Int×ByteArray)) (e:Int×ByteArray):J1w (es++[e])=J1w es++[.int .i64 e.1,.string e.2]:=by simp[J1w]
theorem Jjr {n:Nat} {ev:List (Int×ByteArray)} (hS:J1 w0 l w (m.hp sb n bud++r)) (hev:SliceHp 2 146 m.vv ev.length (J1w ev) m.vhp) (hB:ev.length<=4398046511104) (kind:Int) (key:ByteArray):
 Calls Tryz.prog 171 #[ptr sb,.int .i64 kind,.string key] w fun e w'=>e= .returned (.tuple #[])/\
  ∃vv' vhp',SliceHp 2 146 vv' (ev++[(kind,key)]).length (J1w (ev++[(kind,key)])) vhp'/\J1 w0 l w' ({m with vv:=vv',vhp:=vhp'}.hp sb n bud++r):=by
 obtain⟨_,_,_,_,_,_,_,c7,fz⟩:=Ju hS.own
 have hsb:=Jc hS.own.left.head;have S1:=hS.alloc (.cells #[.int .i64 kind,.string key] 146);have hvb:=S1.own.head;generalize hw1:w.alloc (.cells #[.int .i64 kind,.string key] 146)=w1 at S1 hvb
 have S2:=S1.permR (l2:=m.vhp++((w.heap.size,.cells #[.int .i64 kind,.string key] 146 (0,0))::(sb,J0m m n bud)::(m.tl++(m.rl++(m.xl++(m.shp++(m.fhp++(Ko m.ss++r)))))))) (J2 fun f=>by
  simp only[SM.hp,SM.rest,List.map_append,List.sum_append,List.map_cons,List.sum_cons,List.cons_append];omega)
 obtain⟨v',w2,sl',hrun,hsl',S3,_⟩:=J0c (P:=Tryz.prog) (ty:=74) Tryz.underlying74 Tryz.underlying74 Jm1 rfl (by decide) S2 hev
  ⟨w.heap.size,0,none⟩ 1 1 [.int .i64 kind,.string key] rfl (by
   intro j u hu
   rw[J33,J0 hvb];simpa using hu) (by simp[Value.oneCell']) (by omega) (by omega) (by unfold maxLen;omega)
 subst hw1;obtain⟨a',c',rfl,_,_⟩:=hsl'.form
 have hb3:=S3.own.right.tail.head;obtain⟨x7,hx7⟩:∃x,w2.cell? ⟨sb,7,none⟩=some x:=⟨_,J0 hb3 7⟩
 have fz2:∀j,w2.frozen? ⟨sb,j,none⟩=false:=fun j=>J6 hb3 j
 have S4:=(S3.pick (l2:=(sb,J0m m n bud)::(sl'++(m.tl++(m.rl++(m.xl++(m.shp++(m.fhp++(Ko m.ss++r)))))))) (m:=[(w.heap.size,.cells #[.int .i64 kind,.string key] 146 (0,0))]) (J2 fun f=>by
  simp only[List.map_append,List.sum_append,List.map_cons,List.sum_cons,List.cons_append,List.map_nil,List.sum_nil];omega)).set 7 (.slice a' (ev.length+1) c')
 have S5:=S4.permR (l2:={m with vv:=.slice a' (ev.length+1) c',vhp:=sl'}.hp sb n bud++r) (J2 fun f=>by
  rw[J0f];simp only[List.map_append,List.sum_append,List.map_cons,List.sum_cons,List.cons_append,List.map_nil,List.sum_nil];show f (sb,J0m {m with vv:=.slice a' (ev.length+1) c',vhp:=sl'} n bud)+_=_
  omega)
 have hfin:=hid (show ∃vv' vhp',SliceHp 2 146 vv' (ev++[(kind,key)]).length (J1w (ev++[(kind,key)])) vhp'/\J1 w0 l (w2.setCell ⟨sb,7,none⟩ (.slice a' (ev.length+1) c')) ({m with vv:=vv',vhp:=vhp'}.hp sb n bud++r) from⟨.slice a' (ev.length+1) c',sl',by rw[Jbl,List.length_append];exact hsl',S5⟩)
 obtain⟨a7,n7,h7⟩:∃a c,m.vv= .slice a ev.length c:=by obtain⟨a,c,h,_⟩:=hev.form;exact⟨a,c,h⟩
 rw[h7] at c7 hrun;replace hrun:=hid hrun;clear hev hS S1 S2 S3 S4 S5 hvb hb3 hsl' h7;go_enter Tryz.func171,Tryz.ntmps171;go_wp2_with (at_builtin;refine Jh rfl _ _ _ _ rfl _ _ rfl rfl hrun.out ?_);go_end0
 exact⟨rfl,hfin.out⟩
end Go.Proofs.YtefjbegnlolgbaaGreatDoor
