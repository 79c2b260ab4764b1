/-
DERIVED: THE SHELF's CONTRACTS AT THIS DUMP, IN PLAIN WORDS (tools/lay-plain.mjs out of 'TryzShelf.lean', which tools/lay-shelf.mjs wrote): THE SAME DECLARATIONS UNDER THE SAME NAMES: 'import', 'namespace', 'open', 'def', 'theorem' AND NOTHING ELSE: no command of the shelf's: FOR A HAND-IN. Each laying: the table of numbers ('.._ren') and one theorem, a field a fact of the dump's own or the kernel's comparison; each contract: ONE APPLICATION.
-/
import Derived.Shelf.Bits.Mul64
import Derived.Shelf.LaysC
import Derived.Shelf.LaysM
import Derived.Shelf.Small.Bits
import Derived.Shelf.Small.Strs
import Derived.Shelf.Small.Utf8
import Derived.Shelf.Strconv.AppendInt10
import Derived.Shelf.Strconv.AppendUint10
import Derived.Shelf.Strconv.Atoi
import Derived.Shelf.Strconv.AtoiAll
import Derived.Shelf.Strconv.AtoiErrFast
import Derived.Shelf.Strconv.AtoiFail
import Derived.Shelf.Strconv.AtoiInnerAll
import Derived.Shelf.Strconv.AtoiLong
import Derived.Shelf.Strconv.Clone
import Derived.Shelf.Strconv.ErrVarParseInt
import Derived.Shelf.Strconv.Itoa0
import Derived.Shelf.Strconv.Itoa1
import Derived.Shelf.Strconv.Itoa2
import Derived.Shelf.Strconv.Itoa3
import Derived.Shelf.Strconv.Itoa4
import Derived.Shelf.Strconv.Lower
import Derived.Shelf.Strconv.ParseInt10
import Derived.Shelf.Strconv.ParseInt10All
import Derived.Shelf.Strconv.ParseInt10At16
import Derived.Shelf.Strconv.ParseInt10At32
import Derived.Shelf.Strconv.ParseInt10At64
import Derived.Shelf.Strconv.ParseInt10At8
import Derived.Shelf.Strconv.ParseIntEmpty
import Derived.Shelf.Strconv.ParseIntPublic10
import Derived.Shelf.Strconv.ParseUint10
import Derived.Shelf.Strconv.ParseUint10Any
import Derived.Shelf.Strconv.ParseUint10At
import Derived.Shelf.Strconv.ParseUint10Empty
import Derived.Shelf.Strconv.ParseUint10b16
import Derived.Shelf.Strconv.ParseUint10b32
import Derived.Shelf.Strconv.ParseUint10b64
import Derived.Shelf.Strconv.ParseUint10b8
import Derived.Shelf.Strconv.ParseUintEmpty
import Derived.Shelf.Strconv.RangeError
import Derived.Shelf.Strconv.SyntaxError
import Derived.Shelf.Strconv.ToError
import Derived.Shelf.Strconv.ToErrorRange
import Derived.Shelf.Strings.Builder1
import Derived.Shelf.Strings.Builder2
import Derived.Shelf.Strings.Builder2Cap
import Derived.Shelf.Strings.BuilderCap
import Derived.Shelf.Strings.BuilderF
import Derived.Shelf.Strings.BuilderK
import Derived.Shelf.Strings.BuilderRune
import Derived.Shelf.Strings.CaseAny
import Derived.Shelf.Strings.MapAny
import Derived.Shelf.Strings.MapGrows
import Derived.Shelf.Strings.OnBuilder
import Derived.Shelf.Strings.Search1
import Derived.Shelf.Unicode.CaseConvert
import Derived.Shelf.Unicode.CaseLaid
import Derived.Shelf.Unicode.CaseLookup
import Derived.Shelf.Unicode.CaseTo
import Derived.Shelf.Unicode.DecodeAny
import Derived.Shelf.Unicode.DecodeSlow
import Derived.Shelf.Unicode.Latin
import Derived.Test.YtncbcaabanoeoaaGreatDoorProg
set_option linter.unusedVariables false
set_option linter.unusedSimpArgs false
set_option maxRecDepth 100000
set_option maxHeartbeats 8000000
namespace Go.Proofs
open Go.Shelf
def Tryz.lays159_ren:Go.Shelf.Ren:=⟨fun|159=>37|165=>76|166=>77|167=>78|169=>79|230=>80|204=>81|240=>133|241=>134|197=>135|118=>136|168=>137|270=>138|262=>139|276=>178|277=>179|260=>180|242=>181|313=>182|278=>210|274=>211|275=>212|n=>n,fun|9=>9|4=>4|3=>3|5=>5|72=>141|0=>0|76=>145|75=>144|107=>150|70=>139|20=>20|37=>129|127=>196|21=>21|105=>197|164=>247|162=>253|203=>251|119=>280|46=>132|139=>283|138=>282|51=>190|160=>284|208=>305|206=>303|80=>148|n=>n,fun|13=>1|3=>3|4=>4|n=>n⟩
theorem Tryz.lays159:Go.Proofs.Lays.n159 Tryz.prog Tryz.lays159_ren:={
 mixed:=by kernel_rfl
 f118:=Tryz.func136.trans (congrArg some (by kernel_rfl))
 f159:=Tryz.func37.trans (congrArg some (by kernel_rfl))
 f165:=Tryz.func76.trans (congrArg some (by kernel_rfl))
 f166:=Tryz.func77.trans (congrArg some (by kernel_rfl))
 f167:=Tryz.func78.trans (congrArg some (by kernel_rfl))
 f168:=Tryz.func137.trans (congrArg some (by kernel_rfl))
 f169:=Tryz.func79.trans (congrArg some (by kernel_rfl))
 f197:=Tryz.func135.trans (congrArg some (by kernel_rfl))
 f204:=Tryz.func81.trans (congrArg some (by kernel_rfl))
 f230:=Tryz.func80.trans (congrArg some (by kernel_rfl))
 f240:=Tryz.func133.trans (congrArg some (by kernel_rfl))
 f241:=Tryz.func134.trans (congrArg some (by kernel_rfl))
 f242:=Tryz.func181.trans (congrArg some (by kernel_rfl))
 f260:=Tryz.func180.trans (congrArg some (by kernel_rfl))
 f262:=Tryz.func139.trans (congrArg some (by kernel_rfl))
 f270:=Tryz.func138.trans (congrArg some (by kernel_rfl))
 f274:=Tryz.func211.trans (congrArg some (by kernel_rfl))
 f275:=Tryz.func212.trans (congrArg some (by kernel_rfl))
 f276:=Tryz.func178.trans (congrArg some (by kernel_rfl))
 f277:=Tryz.func179.trans (congrArg some (by kernel_rfl))
 f278:=Tryz.func210.trans (congrArg some (by kernel_rfl))
 f313:=Tryz.func182.trans (congrArg some (by kernel_rfl))
 t0:=Tryz.underlying0
 a0:=Tryz.isAgg0
 z0:=Tryz.sizeOf0
 v0:=Tryz.zeroValue0
 t3:=Tryz.underlying3
 a3:=Tryz.isAgg3
 z3:=Tryz.sizeOf3
 v3:=Tryz.zeroValue3
 t4:=Tryz.underlying4
 a4:=Tryz.isAgg4
 z4:=Tryz.sizeOf4
 v4:=Tryz.zeroValue4
 t5:=Tryz.underlying5
 a5:=Tryz.isAgg5
 z5:=Tryz.sizeOf5
 v5:=Tryz.zeroValue5
 t9:=Tryz.underlying9
 a9:=Tryz.isAgg9
 z9:=Tryz.sizeOf9
 v9:=Tryz.zeroValue9
 t20:=Tryz.underlying20
 a20:=Tryz.isAgg20
 z20:=Tryz.sizeOf20
 v20:=Tryz.zeroValue20
 t21:=Tryz.underlying21
 a21:=Tryz.isAgg21
 z21:=Tryz.sizeOf21
 v21:=Tryz.zeroValue21
 t37:=Tryz.underlying129
 a37:=Tryz.isAgg129
 z37:=Tryz.sizeOf129
 v37:=Tryz.zeroValue129
 t46:=Tryz.underlying132
 a46:=Tryz.isAgg132
 z46:=Tryz.sizeOf132
 v46:=Tryz.zeroValue132
 t51:=Tryz.underlying190
 a51:=Tryz.isAgg190
 z51:=Tryz.sizeOf190
 v51:=Tryz.zeroValue190
 t70:=Tryz.underlying139
 a70:=Tryz.isAgg139
 z70:=Tryz.sizeOf139
 v70:=Tryz.zeroValue139
 t72:=Tryz.underlying141
 a72:=Tryz.isAgg141
 z72:=Tryz.sizeOf141
 v72:=Tryz.zeroValue141
 t75:=Tryz.underlying144
 a75:=Tryz.isAgg144
 z75:=Tryz.sizeOf144
 v75:=Tryz.zeroValue144
 t76:=Tryz.underlying145
 a76:=Tryz.isAgg145
 z76:=Tryz.sizeOf145
 v76:=Tryz.zeroValue145
 t105:=Tryz.underlying197
 a105:=Tryz.isAgg197
 z105:=Tryz.sizeOf197
 v105:=Tryz.zeroValue197
 t107:=Tryz.underlying150
 a107:=Tryz.isAgg150
 z107:=Tryz.sizeOf150
 v107:=Tryz.zeroValue150
 t119:=Tryz.underlying280
 a119:=Tryz.isAgg280
 z119:=Tryz.sizeOf280
 t127:=Tryz.underlying196
 a127:=Tryz.isAgg196
 z127:=Tryz.sizeOf196
 v127:=Tryz.zeroValue196
 t138:=Tryz.underlying282
 a138:=Tryz.isAgg282
 z138:=Tryz.sizeOf282
 v138:=Tryz.zeroValue282
 t139:=Tryz.underlying283
 a139:=Tryz.isAgg283
 z139:=Tryz.sizeOf283
 v139:=Tryz.zeroValue283
 t160:=Tryz.underlying284
 a160:=Tryz.isAgg284
 z160:=Tryz.sizeOf284
 v160:=Tryz.zeroValue284
 t162:=Tryz.underlying253
 a162:=Tryz.isAgg253
 z162:=Tryz.sizeOf253
 v162:=Tryz.zeroValue253
 t164:=Tryz.underlying247
 a164:=Tryz.isAgg247
 z164:=Tryz.sizeOf247
 v164:=Tryz.zeroValue247
 t203:=Tryz.underlying251
 a203:=Tryz.isAgg251
 z203:=Tryz.sizeOf251
 v203:=Tryz.zeroValue251
 t206:=Tryz.underlying303
 a206:=Tryz.isAgg303
 z206:=Tryz.sizeOf303
 v206:=Tryz.zeroValue303
 t208:=Tryz.underlying305
 a208:=Tryz.isAgg305
 z208:=Tryz.sizeOf305
 v208:=Tryz.zeroValue305
 g3:=by kernel_rfl
 g4:=by kernel_rfl
 g13:=by kernel_rfl}
theorem Tryz.Builder_Extra_159:Builder.Extra Tryz.prog Tryz.lays159_ren:={
 sizeBuilder:=by kernel_rfl
 liesBuilder:=by kernel_rfl
 t5:=Tryz.underlying5
 a5:=Tryz.isAgg5
 z5:=Tryz.sizeOf5
 v5:=Tryz.zeroValue5
 infoByte:=by kernel_rfl
 cellsByte:=by kernel_rfl
 sizeByte:=by kernel_rfl
 neB5:=by decide}
open Go.RowKit in
theorem Tryz.strings_ToLower_ascii (s:ByteArray) (w:World) (hs:s.size<=140737488355328) (hascii:∀(j:Nat) (b:UInt8),s.data.toList[j]? =some b->b.toNat<128):
 Calls Tryz.prog 37 #[.string s] w fun e w'=>e= .returned (.string ⟨(Lib.toLowerA s.data.toList).toArray⟩)/\Below w.heap.size w w':=Any.strings_ToLower_ascii Tryz.lays159 Tryz.Builder_Extra_159 s w hs hascii
def Tryz.lays137_ren:Go.Shelf.Ren:=⟨fun|137=>200|217=>224|266=>242|n=>n,fun|9=>9|5=>5|3=>3|n=>n,fun|n=>n⟩
theorem Tryz.lays137:Go.Proofs.Lays.n137 Tryz.prog Tryz.lays137_ren:={
 mixed:=by kernel_rfl
 f137:=Tryz.func200.trans (congrArg some (by kernel_rfl))
 f217:=Tryz.func224.trans (congrArg some (by kernel_rfl))
 f266:=Tryz.func242.trans (congrArg some (by kernel_rfl))
 t3:=Tryz.underlying3
 a3:=Tryz.isAgg3
 z3:=Tryz.sizeOf3
 v3:=Tryz.zeroValue3
 t5:=Tryz.underlying5
 a5:=Tryz.isAgg5
 z5:=Tryz.sizeOf5
 v5:=Tryz.zeroValue5
 t9:=Tryz.underlying9
 a9:=Tryz.isAgg9
 z9:=Tryz.sizeOf9
 v9:=Tryz.zeroValue9}
open Go.RowKit in
theorem Tryz.strings_IndexByte (s:ByteArray) (c:Int) (w:World):
 Calls Tryz.prog 200 #[.string s,.int .u8 c] w fun e w'=>e= .returned (.int .i64 (Lib.indexByte s.data.toList c.toNat.toUInt8))/\w'=w:=Any.strings_IndexByte Tryz.lays137 s c w
def Tryz.lays172_ren:Go.Shelf.Ren:=⟨fun|172=>199|244=>223|245=>191|247=>190|279=>216|280=>217|281=>218|282=>219|287=>215|316=>235|171=>237|205=>236|321=>233|322=>234|243=>249|246=>214|283=>229|284=>230|285=>231|286=>232|129=>129|317=>245|318=>246|319=>247|320=>248|337=>276|338=>277|n=>n,fun|9=>9|3=>3|75=>144|76=>145|4=>4|5=>5|167=>289|37=>129|0=>0|85=>214|2=>2|168=>292|53=>90|175=>290|46=>132|210=>312|127=>196|145=>327|143=>325|21=>21|171=>307|173=>309|212=>322|51=>190|20=>20|213=>323|232=>355|233=>381|80=>148|n=>n,fun|15=>5|16=>6|17=>7|18=>14|19=>15|n=>n⟩
theorem Tryz.lays172:Go.Proofs.Lays.n172 Tryz.prog Tryz.lays172_ren:={
 mixed:=by kernel_rfl
 f129:=Tryz.func129.trans (congrArg some (by kernel_rfl))
 f171:=Tryz.func237.trans (congrArg some (by kernel_rfl))
 f172:=Tryz.func199.trans (congrArg some (by kernel_rfl))
 f205:=Tryz.func236.trans (congrArg some (by kernel_rfl))
 f243:=Tryz.func249.trans (congrArg some (by kernel_rfl))
 f244:=Tryz.func223.trans (congrArg some (by kernel_rfl))
 f245:=Tryz.func191.trans (congrArg some (by kernel_rfl))
 f246:=Tryz.func214.trans (congrArg some (by kernel_rfl))
 f247:=Tryz.func190.trans (congrArg some (by kernel_rfl))
 f279:=Tryz.func216.trans (congrArg some (by kernel_rfl))
 f280:=Tryz.func217.trans (congrArg some (by kernel_rfl))
 f281:=Tryz.func218.trans (congrArg some (by kernel_rfl))
 f282:=Tryz.func219.trans (congrArg some (by kernel_rfl))
 f283:=Tryz.func229.trans (congrArg some (by kernel_rfl))
 f284:=Tryz.func230.trans (congrArg some (by kernel_rfl))
 f285:=Tryz.func231.trans (congrArg some (by kernel_rfl))
 f286:=Tryz.func232.trans (congrArg some (by kernel_rfl))
 f287:=Tryz.func215.trans (congrArg some (by kernel_rfl))
 f316:=Tryz.func235.trans (congrArg some (by kernel_rfl))
 f317:=Tryz.func245.trans (congrArg some (by kernel_rfl))
 f318:=Tryz.func246.trans (congrArg some (by kernel_rfl))
 f319:=Tryz.func247.trans (congrArg some (by kernel_rfl))
 f320:=Tryz.func248.trans (congrArg some (by kernel_rfl))
 f321:=Tryz.func233.trans (congrArg some (by kernel_rfl))
 f322:=Tryz.func234.trans (congrArg some (by kernel_rfl))
 f337:=Tryz.func276.trans (congrArg some (by kernel_rfl))
 f338:=Tryz.func277.trans (congrArg some (by kernel_rfl))
 t0:=Tryz.underlying0
 a0:=Tryz.isAgg0
 z0:=Tryz.sizeOf0
 v0:=Tryz.zeroValue0
 t2:=Tryz.underlying2
 a2:=Tryz.isAgg2
 z2:=Tryz.sizeOf2
 v2:=Tryz.zeroValue2
 t3:=Tryz.underlying3
 a3:=Tryz.isAgg3
 z3:=Tryz.sizeOf3
 v3:=Tryz.zeroValue3
 t4:=Tryz.underlying4
 a4:=Tryz.isAgg4
 z4:=Tryz.sizeOf4
 v4:=Tryz.zeroValue4
 t5:=Tryz.underlying5
 a5:=Tryz.isAgg5
 z5:=Tryz.sizeOf5
 v5:=Tryz.zeroValue5
 t9:=Tryz.underlying9
 a9:=Tryz.isAgg9
 z9:=Tryz.sizeOf9
 v9:=Tryz.zeroValue9
 t20:=Tryz.underlying20
 a20:=Tryz.isAgg20
 z20:=Tryz.sizeOf20
 v20:=Tryz.zeroValue20
 t21:=Tryz.underlying21
 a21:=Tryz.isAgg21
 z21:=Tryz.sizeOf21
 v21:=Tryz.zeroValue21
 t37:=Tryz.underlying129
 a37:=Tryz.isAgg129
 z37:=Tryz.sizeOf129
 v37:=Tryz.zeroValue129
 t46:=Tryz.underlying132
 a46:=Tryz.isAgg132
 z46:=Tryz.sizeOf132
 v46:=Tryz.zeroValue132
 t51:=Tryz.underlying190
 a51:=Tryz.isAgg190
 z51:=Tryz.sizeOf190
 v51:=Tryz.zeroValue190
 t53:=Tryz.underlying90
 a53:=Tryz.isAgg90
 z53:=Tryz.sizeOf90
 v53:=Tryz.zeroValue90
 t75:=Tryz.underlying144
 a75:=Tryz.isAgg144
 z75:=Tryz.sizeOf144
 v75:=Tryz.zeroValue144
 t76:=Tryz.underlying145
 a76:=Tryz.isAgg145
 z76:=Tryz.sizeOf145
 v76:=Tryz.zeroValue145
 t85:=Tryz.underlying214
 a85:=Tryz.isAgg214
 z85:=Tryz.sizeOf214
 v85:=Tryz.zeroValue214
 t127:=Tryz.underlying196
 a127:=Tryz.isAgg196
 z127:=Tryz.sizeOf196
 v127:=Tryz.zeroValue196
 t143:=Tryz.underlying325
 a143:=Tryz.isAgg325
 z143:=Tryz.sizeOf325
 v143:=Tryz.zeroValue325
 t145:=Tryz.underlying327
 a145:=Tryz.isAgg327
 z145:=Tryz.sizeOf327
 v145:=Tryz.zeroValue327
 t167:=Tryz.underlying289
 a167:=Tryz.isAgg289
 z167:=Tryz.sizeOf289
 v167:=Tryz.zeroValue289
 t168:=Tryz.underlying292
 a168:=Tryz.isAgg292
 z168:=Tryz.sizeOf292
 v168:=Tryz.zeroValue292
 t171:=Tryz.underlying307
 a171:=Tryz.isAgg307
 z171:=Tryz.sizeOf307
 v171:=Tryz.zeroValue307
 t173:=Tryz.underlying309
 a173:=Tryz.isAgg309
 z173:=Tryz.sizeOf309
 v173:=Tryz.zeroValue309
 t175:=Tryz.underlying290
 a175:=Tryz.isAgg290
 z175:=Tryz.sizeOf290
 v175:=Tryz.zeroValue290
 t210:=Tryz.underlying312
 a210:=Tryz.isAgg312
 z210:=Tryz.sizeOf312
 v210:=Tryz.zeroValue312
 t212:=Tryz.underlying322
 a212:=Tryz.isAgg322
 z212:=Tryz.sizeOf322
 v212:=Tryz.zeroValue322
 t213:=Tryz.underlying323
 a213:=Tryz.isAgg323
 z213:=Tryz.sizeOf323
 t232:=Tryz.underlying355
 a232:=Tryz.isAgg355
 z232:=Tryz.sizeOf355
 v232:=Tryz.zeroValue355
 t233:=Tryz.underlying381
 a233:=Tryz.isAgg381
 z233:=Tryz.sizeOf381
 v233:=Tryz.zeroValue381
 g15:=by kernel_rfl
 g16:=by kernel_rfl
 g17:=by kernel_rfl
 g18:=by kernel_rfl
 g19:=by kernel_rfl}
open Go.RowKit in
theorem Tryz.strconv_Atoi (s:ByteArray) (n:Int) (hl:s.size<=18) (h:Lib.atoi s.data.toList=some n) (w:World):
 Calls Tryz.prog 199 #[.string s] w fun e w'=>e= .returned (.tuple #[.int .i64 n,.nilIface])/\∃t,w'=Lib.bytesWorld w 5 t:=Any.strconv_Atoi Tryz.lays172 s n hl h w
def Tryz.lays129_ren:Go.Shelf.Ren:=⟨fun|129=>129|n=>n,fun|53=>90|3=>3|4=>4|46=>132|5=>5|9=>9|n=>n,fun|n=>n⟩
theorem Tryz.lays129:Go.Proofs.Lays.n129 Tryz.prog Tryz.lays129_ren:={
 mixed:=by kernel_rfl
 f129:=Tryz.func129.trans (congrArg some (by kernel_rfl))
 t3:=Tryz.underlying3
 a3:=Tryz.isAgg3
 z3:=Tryz.sizeOf3
 v3:=Tryz.zeroValue3
 t4:=Tryz.underlying4
 a4:=Tryz.isAgg4
 z4:=Tryz.sizeOf4
 v4:=Tryz.zeroValue4
 t5:=Tryz.underlying5
 a5:=Tryz.isAgg5
 z5:=Tryz.sizeOf5
 v5:=Tryz.zeroValue5
 t9:=Tryz.underlying9
 a9:=Tryz.isAgg9
 z9:=Tryz.sizeOf9
 v9:=Tryz.zeroValue9
 t46:=Tryz.underlying132
 a46:=Tryz.isAgg132
 z46:=Tryz.sizeOf132
 v46:=Tryz.zeroValue132
 t53:=Tryz.underlying90
 a53:=Tryz.isAgg90
 z53:=Tryz.sizeOf90
 v53:=Tryz.zeroValue90}
theorem Tryz.bits_Len64 (x:Int) (w:World) (h0:0<=x) (h1:x<=18446744073709551615):
 Calls Tryz.prog 129 #[.int .u64 x] w fun e w'=>e= .returned (.int .i64 (Lib.bitLen x.toNat))/\w'=w:=Any.bits_Len64 Tryz.lays129 x w h0 h1
def Tryz.laysM284_ren:Go.Shelf.Ren:=⟨fun|284=>230|129=>129|317=>245|318=>246|n=>n,fun|53=>90|3=>3|212=>322|0=>0|4=>4|46=>132|5=>5|9=>9|n=>n,fun|17=>7|n=>n⟩
theorem Tryz.laysM284:Go.Proofs.LaysM.n284 Tryz.prog Tryz.laysM284_ren:={
 mixed:=by kernel_rfl
 f129:=Tryz.func129.trans (congrArg some (by kernel_rfl))
 f284:=Tryz.func230.trans (congrArg some (by kernel_rfl))
 f317:=Tryz.func245.trans (congrArg some (by kernel_rfl))
 f318:=Tryz.func246.trans (congrArg some (by kernel_rfl))
 t0:=Tryz.underlying0
 a0:=Tryz.isAgg0
 z0:=Tryz.sizeOf0
 v0:=Tryz.zeroValue0
 t3:=Tryz.underlying3
 a3:=Tryz.isAgg3
 z3:=Tryz.sizeOf3
 v3:=Tryz.zeroValue3
 t4:=Tryz.underlying4
 a4:=Tryz.isAgg4
 z4:=Tryz.sizeOf4
 v4:=Tryz.zeroValue4
 t5:=Tryz.underlying5
 a5:=Tryz.isAgg5
 z5:=Tryz.sizeOf5
 v5:=Tryz.zeroValue5
 t9:=Tryz.underlying9
 a9:=Tryz.isAgg9
 z9:=Tryz.sizeOf9
 v9:=Tryz.zeroValue9
 t46:=Tryz.underlying132
 a46:=Tryz.isAgg132
 z46:=Tryz.sizeOf132
 v46:=Tryz.zeroValue132
 t53:=Tryz.underlying90
 a53:=Tryz.isAgg90
 z53:=Tryz.sizeOf90
 v53:=Tryz.zeroValue90
 t212:=Tryz.underlying322
 a212:=Tryz.isAgg322
 z212:=Tryz.sizeOf322
 v212:=Tryz.zeroValue322
 g17:=by kernel_rfl
 i0:=by kernel_rfl
 i3:=by kernel_rfl
 i4:=by kernel_rfl
 i5:=by kernel_rfl
 i9:=by kernel_rfl
 i46:=by kernel_rfl
 i53:=by kernel_rfl
 i212:=by kernel_rfl
 m17:=by kernel_rfl}
open Go.Lib in
theorem Tryz.internal_strconv_numDigits (u:Nat) (h1:1<=u) (h2:u<18446744073709551616) (w:World) (htab:Lib.TabIs Tryz.prog w "internal/strconv.uint64pow10" .u64 Lib.pow10Tab):
 Calls Tryz.prog 230 #[.int .u64 u] w fun e w'=>e= .returned (.int .i64 (Lib.nDigits u))/\w'=w:=Any.internal_strconv_numDigits Tryz.laysM284 u h1 h2 w htab
def Tryz.lays285_ren:Go.Shelf.Ren:=⟨fun|285=>231|n=>n,fun|37=>129|53=>90|3=>3|4=>4|51=>190|9=>9|5=>5|0=>0|n=>n,fun|n=>n⟩
theorem Tryz.lays285:Go.Proofs.Lays.n285 Tryz.prog Tryz.lays285_ren:={
 mixed:=by kernel_rfl
 f285:=Tryz.func231.trans (congrArg some (by kernel_rfl))
 t0:=Tryz.underlying0
 a0:=Tryz.isAgg0
 z0:=Tryz.sizeOf0
 v0:=Tryz.zeroValue0
 t3:=Tryz.underlying3
 a3:=Tryz.isAgg3
 z3:=Tryz.sizeOf3
 v3:=Tryz.zeroValue3
 t4:=Tryz.underlying4
 a4:=Tryz.isAgg4
 z4:=Tryz.sizeOf4
 v4:=Tryz.zeroValue4
 t5:=Tryz.underlying5
 a5:=Tryz.isAgg5
 z5:=Tryz.sizeOf5
 v5:=Tryz.zeroValue5
 t9:=Tryz.underlying9
 a9:=Tryz.isAgg9
 z9:=Tryz.sizeOf9
 v9:=Tryz.zeroValue9
 t37:=Tryz.underlying129
 a37:=Tryz.isAgg129
 z37:=Tryz.sizeOf129
 v37:=Tryz.zeroValue129
 t51:=Tryz.underlying190
 a51:=Tryz.isAgg190
 z51:=Tryz.sizeOf190
 v51:=Tryz.zeroValue190
 t53:=Tryz.underlying90
 a53:=Tryz.isAgg90
 z53:=Tryz.sizeOf90
 v53:=Tryz.zeroValue90}
open Go.RowKit Go.Sort Go.Lib in
theorem Tryz.internal_strconv_formatBase10 (blk off cap:Nat) (u:Nat) (d:Array UInt8) (w:World) (hH:Holds (fun (b:UInt8)=>Value.int .u8 (b.toNat:Int)) w blk off d) (hu:u<10 ^d.size) (hu64:u<18446744073709551616) (hsz:d.size<4611686018427387904):
 Calls Tryz.prog 231 #[.slice (some ⟨blk,off,none⟩) d.size cap,.int .u64 u] w fun e w'=>
  e= .returned (.tuple #[])/\∃(n v':Nat) (dk:Array UInt8),w'=(putRow (fun (b:UInt8)=>Value.int .u8 (b.toNat:Int)) w blk off dk).drewN n/\FmtInv d.size u 0 v' dk:=Any.internal_strconv_formatBase10 Tryz.lays285 blk off cap u d w hH hu hu64 hsz
def Tryz.laysM173_ren:Go.Shelf.Ren:=⟨fun|173=>189|246=>214|283=>229|284=>230|285=>231|286=>232|129=>129|317=>245|318=>246|319=>247|320=>248|337=>276|338=>277|n=>n,fun|2=>2|3=>3|9=>9|4=>4|171=>307|0=>0|53=>90|37=>129|5=>5|173=>309|212=>322|51=>190|20=>20|213=>323|46=>132|232=>355|233=>381|n=>n,fun|17=>7|18=>14|19=>15|n=>n⟩
theorem Tryz.laysM173:Go.Proofs.LaysM.n173 Tryz.prog Tryz.laysM173_ren:={
 mixed:=by kernel_rfl
 f129:=Tryz.func129.trans (congrArg some (by kernel_rfl))
 f173:=Tryz.func189.trans (congrArg some (by kernel_rfl))
 f246:=Tryz.func214.trans (congrArg some (by kernel_rfl))
 f283:=Tryz.func229.trans (congrArg some (by kernel_rfl))
 f284:=Tryz.func230.trans (congrArg some (by kernel_rfl))
 f285:=Tryz.func231.trans (congrArg some (by kernel_rfl))
 f286:=Tryz.func232.trans (congrArg some (by kernel_rfl))
 f317:=Tryz.func245.trans (congrArg some (by kernel_rfl))
 f318:=Tryz.func246.trans (congrArg some (by kernel_rfl))
 f319:=Tryz.func247.trans (congrArg some (by kernel_rfl))
 f320:=Tryz.func248.trans (congrArg some (by kernel_rfl))
 f337:=Tryz.func276.trans (congrArg some (by kernel_rfl))
 f338:=Tryz.func277.trans (congrArg some (by kernel_rfl))
 t0:=Tryz.underlying0
 a0:=Tryz.isAgg0
 z0:=Tryz.sizeOf0
 v0:=Tryz.zeroValue0
 t2:=Tryz.underlying2
 a2:=Tryz.isAgg2
 z2:=Tryz.sizeOf2
 v2:=Tryz.zeroValue2
 t3:=Tryz.underlying3
 a3:=Tryz.isAgg3
 z3:=Tryz.sizeOf3
 v3:=Tryz.zeroValue3
 t4:=Tryz.underlying4
 a4:=Tryz.isAgg4
 z4:=Tryz.sizeOf4
 v4:=Tryz.zeroValue4
 t5:=Tryz.underlying5
 a5:=Tryz.isAgg5
 z5:=Tryz.sizeOf5
 v5:=Tryz.zeroValue5
 t9:=Tryz.underlying9
 a9:=Tryz.isAgg9
 z9:=Tryz.sizeOf9
 v9:=Tryz.zeroValue9
 t20:=Tryz.underlying20
 a20:=Tryz.isAgg20
 z20:=Tryz.sizeOf20
 v20:=Tryz.zeroValue20
 t37:=Tryz.underlying129
 a37:=Tryz.isAgg129
 z37:=Tryz.sizeOf129
 v37:=Tryz.zeroValue129
 t46:=Tryz.underlying132
 a46:=Tryz.isAgg132
 z46:=Tryz.sizeOf132
 v46:=Tryz.zeroValue132
 t51:=Tryz.underlying190
 a51:=Tryz.isAgg190
 z51:=Tryz.sizeOf190
 v51:=Tryz.zeroValue190
 t53:=Tryz.underlying90
 a53:=Tryz.isAgg90
 z53:=Tryz.sizeOf90
 v53:=Tryz.zeroValue90
 t171:=Tryz.underlying307
 a171:=Tryz.isAgg307
 z171:=Tryz.sizeOf307
 v171:=Tryz.zeroValue307
 t173:=Tryz.underlying309
 a173:=Tryz.isAgg309
 z173:=Tryz.sizeOf309
 v173:=Tryz.zeroValue309
 t212:=Tryz.underlying322
 a212:=Tryz.isAgg322
 z212:=Tryz.sizeOf322
 v212:=Tryz.zeroValue322
 t213:=Tryz.underlying323
 a213:=Tryz.isAgg323
 z213:=Tryz.sizeOf323
 t232:=Tryz.underlying355
 a232:=Tryz.isAgg355
 z232:=Tryz.sizeOf355
 v232:=Tryz.zeroValue355
 t233:=Tryz.underlying381
 a233:=Tryz.isAgg381
 z233:=Tryz.sizeOf381
 v233:=Tryz.zeroValue381
 g17:=by kernel_rfl
 g18:=by kernel_rfl
 g19:=by kernel_rfl
 i0:=by kernel_rfl
 i2:=by kernel_rfl
 i3:=by kernel_rfl
 i4:=by kernel_rfl
 i5:=by kernel_rfl
 i9:=by kernel_rfl
 i20:=by kernel_rfl
 i37:=by kernel_rfl
 i46:=by kernel_rfl
 i51:=by kernel_rfl
 i53:=by kernel_rfl
 i171:=by kernel_rfl
 i173:=by kernel_rfl
 i212:=by kernel_rfl
 i232:=by kernel_rfl
 i233:=by kernel_rfl
 m17:=by kernel_rfl
 m18:=by kernel_rfl
 m19:=by kernel_rfl}
open Go.RowKit Go.Sort Go.Lib in
theorem Tryz.strconv_FormatInt_10 (n:Int) (h0: -9223372036854775808<=n) (h1:n<=9223372036854775807) (w:World) (htab:Lib.TabIs Tryz.prog w "internal/strconv.uint64pow10" .u64 Lib.pow10Tab):
 Calls Tryz.prog 189 #[.int .i64 n,.int .i64 10] w fun e w'=>e= .returned (.string ⟨(Lib.itoa n).toArray⟩)/\∃k os,w'=grow (w.drewN k) os:=Any.strconv_FormatInt_10 Tryz.laysM173 n h0 h1 w htab
def Tryz.laysC245_ren:Go.Shelf.Ren:=⟨fun|245=>191|279=>216|280=>217|281=>218|282=>219|316=>235|171=>237|205=>236|243=>249|246=>214|283=>229|284=>230|285=>231|286=>232|129=>129|317=>245|318=>246|319=>247|320=>248|337=>276|338=>277|n=>n,fun|9=>9|3=>3|75=>144|167=>289|4=>4|168=>292|210=>312|37=>129|0=>0|127=>196|145=>327|143=>325|2=>2|171=>307|53=>90|5=>5|173=>309|212=>322|51=>190|20=>20|213=>323|46=>132|232=>355|233=>381|80=>148|n=>n,fun|15=>5|16=>6|17=>7|18=>14|19=>15|n=>n⟩
theorem Tryz.laysC245:Go.Proofs.LaysC.n245 Tryz.prog Tryz.laysC245_ren:={
 mixed:=by kernel_rfl
 f129:=Tryz.func129.trans (congrArg some (by kernel_rfl))
 f171:=Tryz.func237.trans (congrArg some (by kernel_rfl))
 f205:=Tryz.func236.trans (congrArg some (by kernel_rfl))
 f243:=Tryz.func249.trans (congrArg some (by kernel_rfl))
 f245:=Tryz.func191.trans (congrArg some (by kernel_rfl))
 f246:=Tryz.func214.trans (congrArg some (by kernel_rfl))
 f279:=Tryz.func216.trans (congrArg some (by kernel_rfl))
 f280:=Tryz.func217.trans (congrArg some (by kernel_rfl))
 f281:=Tryz.func218.trans (congrArg some (by kernel_rfl))
 f282:=Tryz.func219.trans (congrArg some (by kernel_rfl))
 f283:=Tryz.func229.trans (congrArg some (by kernel_rfl))
 f284:=Tryz.func230.trans (congrArg some (by kernel_rfl))
 f285:=Tryz.func231.trans (congrArg some (by kernel_rfl))
 f286:=Tryz.func232.trans (congrArg some (by kernel_rfl))
 f316:=Tryz.func235.trans (congrArg some (by kernel_rfl))
 f317:=Tryz.func245.trans (congrArg some (by kernel_rfl))
 f318:=Tryz.func246.trans (congrArg some (by kernel_rfl))
 f319:=Tryz.func247.trans (congrArg some (by kernel_rfl))
 f320:=Tryz.func248.trans (congrArg some (by kernel_rfl))
 f337:=Tryz.func276.trans (congrArg some (by kernel_rfl))
 f338:=Tryz.func277.trans (congrArg some (by kernel_rfl))
 t0:=Tryz.underlying0
 a0:=Tryz.isAgg0
 z0:=Tryz.sizeOf0
 v0:=Tryz.zeroValue0
 t2:=Tryz.underlying2
 a2:=Tryz.isAgg2
 z2:=Tryz.sizeOf2
 v2:=Tryz.zeroValue2
 t3:=Tryz.underlying3
 a3:=Tryz.isAgg3
 z3:=Tryz.sizeOf3
 v3:=Tryz.zeroValue3
 t4:=Tryz.underlying4
 a4:=Tryz.isAgg4
 z4:=Tryz.sizeOf4
 v4:=Tryz.zeroValue4
 t5:=Tryz.underlying5
 a5:=Tryz.isAgg5
 z5:=Tryz.sizeOf5
 v5:=Tryz.zeroValue5
 t9:=Tryz.underlying9
 a9:=Tryz.isAgg9
 z9:=Tryz.sizeOf9
 v9:=Tryz.zeroValue9
 t20:=Tryz.underlying20
 a20:=Tryz.isAgg20
 z20:=Tryz.sizeOf20
 v20:=Tryz.zeroValue20
 t37:=Tryz.underlying129
 a37:=Tryz.isAgg129
 z37:=Tryz.sizeOf129
 v37:=Tryz.zeroValue129
 t46:=Tryz.underlying132
 a46:=Tryz.isAgg132
 z46:=Tryz.sizeOf132
 v46:=Tryz.zeroValue132
 t51:=Tryz.underlying190
 a51:=Tryz.isAgg190
 z51:=Tryz.sizeOf190
 v51:=Tryz.zeroValue190
 t53:=Tryz.underlying90
 a53:=Tryz.isAgg90
 z53:=Tryz.sizeOf90
 v53:=Tryz.zeroValue90
 t75:=Tryz.underlying144
 a75:=Tryz.isAgg144
 z75:=Tryz.sizeOf144
 v75:=Tryz.zeroValue144
 t127:=Tryz.underlying196
 a127:=Tryz.isAgg196
 z127:=Tryz.sizeOf196
 v127:=Tryz.zeroValue196
 t143:=Tryz.underlying325
 a143:=Tryz.isAgg325
 z143:=Tryz.sizeOf325
 v143:=Tryz.zeroValue325
 t145:=Tryz.underlying327
 a145:=Tryz.isAgg327
 z145:=Tryz.sizeOf327
 v145:=Tryz.zeroValue327
 t167:=Tryz.underlying289
 a167:=Tryz.isAgg289
 z167:=Tryz.sizeOf289
 v167:=Tryz.zeroValue289
 t168:=Tryz.underlying292
 a168:=Tryz.isAgg292
 z168:=Tryz.sizeOf292
 v168:=Tryz.zeroValue292
 t171:=Tryz.underlying307
 a171:=Tryz.isAgg307
 z171:=Tryz.sizeOf307
 v171:=Tryz.zeroValue307
 t173:=Tryz.underlying309
 a173:=Tryz.isAgg309
 z173:=Tryz.sizeOf309
 v173:=Tryz.zeroValue309
 t210:=Tryz.underlying312
 a210:=Tryz.isAgg312
 z210:=Tryz.sizeOf312
 v210:=Tryz.zeroValue312
 t212:=Tryz.underlying322
 a212:=Tryz.isAgg322
 z212:=Tryz.sizeOf322
 v212:=Tryz.zeroValue322
 t213:=Tryz.underlying323
 a213:=Tryz.isAgg323
 z213:=Tryz.sizeOf323
 t232:=Tryz.underlying355
 a232:=Tryz.isAgg355
 z232:=Tryz.sizeOf355
 v232:=Tryz.zeroValue355
 t233:=Tryz.underlying381
 a233:=Tryz.isAgg381
 z233:=Tryz.sizeOf381
 v233:=Tryz.zeroValue381
 g15:=by kernel_rfl
 g16:=by kernel_rfl
 g17:=by kernel_rfl
 g18:=by kernel_rfl
 g19:=by kernel_rfl
 t80:=Tryz.underlying148
 a80:=Tryz.isAgg148
 z80:=Tryz.sizeOf148
 v80:=Tryz.zeroValue148
 i0:=by kernel_rfl
 i2:=by kernel_rfl
 i3:=by kernel_rfl
 i4:=by kernel_rfl
 i5:=by kernel_rfl
 i9:=by kernel_rfl
 i20:=by kernel_rfl
 i37:=by kernel_rfl
 i46:=by kernel_rfl
 i51:=by kernel_rfl
 i53:=by kernel_rfl
 i75:=by kernel_rfl
 i80:=by kernel_rfl
 i127:=by kernel_rfl
 i143:=by kernel_rfl
 i145:=by kernel_rfl
 i167:=by kernel_rfl
 i168:=by kernel_rfl
 i171:=by kernel_rfl
 i173:=by kernel_rfl
 i210:=by kernel_rfl
 i212:=by kernel_rfl
 i232:=by kernel_rfl
 i233:=by kernel_rfl
 m15:=by kernel_rfl
 m16:=by kernel_rfl
 m17:=by kernel_rfl
 m18:=by kernel_rfl
 m19:=by kernel_rfl
 c0:=by kernel_rfl
 c2:=by kernel_rfl
 c3:=by kernel_rfl
 c4:=by kernel_rfl
 c5:=by kernel_rfl
 c9:=by kernel_rfl
 c20:=by kernel_rfl
 c37:=by kernel_rfl
 c46:=by kernel_rfl
 c51:=by kernel_rfl
 c53:=by kernel_rfl
 c75:=by kernel_rfl
 c80:=by kernel_rfl
 c127:=by kernel_rfl
 c143:=by kernel_rfl
 c145:=by kernel_rfl
 c167:=by kernel_rfl
 c168:=by kernel_rfl
 c171:=by kernel_rfl
 c173:=by kernel_rfl
 c210:=by kernel_rfl
 c212:=by kernel_rfl
 c213:=by kernel_rfl
 c232:=by kernel_rfl
 c233:=by kernel_rfl}
open Go.RowKit in
theorem Tryz.strconv_toError_syntax (fn s:ByteArray) (base bits:Int) (ev:Value) (w:World) (hlim:s.size<=281474976710656) (hv:w.cell? ⟨5,0,none⟩=some ev) (hev:ev= .nilIface\/∃te pe,ev= .iface te pe):
 Calls Tryz.prog 191 #[.string fn,.string s,.int .i64 base,.int .i64 bits,.iface 289 (.int .i64 2)] w fun e w'=>∃N,e= .returned (.iface 292 (.pointer (some ⟨N,0,none⟩)))/\w.heap.size<=N/\w'.heap[N]? =some (.cells #[.string fn,.string s,ev] 312 (0,0))/\Below w.heap.size w w':=Any.strconv_toError_syntax Tryz.laysC245 fn s base bits ev w hlim hv hev
def Tryz.lays321_ren:Go.Shelf.Ren:=⟨fun|321=>233|n=>n,fun|5=>5|n=>n,fun|n=>n⟩
theorem Tryz.lays321:Go.Proofs.Lays.n321 Tryz.prog Tryz.lays321_ren:={
 mixed:=by kernel_rfl
 f321:=Tryz.func233.trans (congrArg some (by kernel_rfl))
 t5:=Tryz.underlying5
 a5:=Tryz.isAgg5
 z5:=Tryz.sizeOf5
 v5:=Tryz.zeroValue5}
open Go.RowKit in
theorem Tryz.internal_strconv_lower (c:Int) (w:World):
 Calls Tryz.prog 233 #[.int .u8 c] w fun e w'=>e= .returned (.int .u8 (bits .or .u8 c 32))/\w'=w:=Any.internal_strconv_lower Tryz.lays321 c w
open Go.RowKit in
theorem Tryz.strconv_toError_range (fn s:ByteArray) (base bits:Int) (ev:Value) (w:World) (hlim:s.size<=281474976710656) (hv:w.cell? ⟨6,0,none⟩=some ev) (hev:ev= .nilIface\/∃te pe,ev= .iface te pe):
 Calls Tryz.prog 191 #[.string fn,.string s,.int .i64 base,.int .i64 bits,.iface 289 (.int .i64 1)] w fun e w'=>∃N,e= .returned (.iface 292 (.pointer (some ⟨N,0,none⟩)))/\w.heap.size<=N/\w'.heap[N]? =some (.cells #[.string fn,.string s,ev] 312 (0,0))/\Below w.heap.size w w':=Any.strconv_toError_range Tryz.laysC245 fn s base bits ev w hlim hv hev
def Tryz.laysC174_ren:Go.Shelf.Ren:=⟨fun|174=>153|247=>190|245=>191|287=>215|279=>216|280=>217|281=>218|282=>219|321=>233|322=>234|316=>235|171=>237|205=>236|243=>249|246=>214|283=>229|284=>230|285=>231|286=>232|129=>129|317=>245|318=>246|319=>247|320=>248|337=>276|338=>277|n=>n,fun|9=>9|3=>3|2=>2|75=>144|85=>214|4=>4|167=>289|5=>5|53=>90|175=>290|46=>132|168=>292|37=>129|0=>0|210=>312|21=>21|127=>196|145=>327|143=>325|171=>307|173=>309|212=>322|51=>190|20=>20|213=>323|232=>355|233=>381|80=>148|n=>n,fun|15=>5|16=>6|17=>7|18=>14|19=>15|n=>n⟩
theorem Tryz.laysC174:Go.Proofs.LaysC.n174 Tryz.prog Tryz.laysC174_ren:={
 mixed:=by kernel_rfl
 f129:=Tryz.func129.trans (congrArg some (by kernel_rfl))
 f171:=Tryz.func237.trans (congrArg some (by kernel_rfl))
 f174:=Tryz.func153.trans (congrArg some (by kernel_rfl))
 f205:=Tryz.func236.trans (congrArg some (by kernel_rfl))
 f243:=Tryz.func249.trans (congrArg some (by kernel_rfl))
 f245:=Tryz.func191.trans (congrArg some (by kernel_rfl))
 f246:=Tryz.func214.trans (congrArg some (by kernel_rfl))
 f247:=Tryz.func190.trans (congrArg some (by kernel_rfl))
 f279:=Tryz.func216.trans (congrArg some (by kernel_rfl))
 f280:=Tryz.func217.trans (congrArg some (by kernel_rfl))
 f281:=Tryz.func218.trans (congrArg some (by kernel_rfl))
 f282:=Tryz.func219.trans (congrArg some (by kernel_rfl))
 f283:=Tryz.func229.trans (congrArg some (by kernel_rfl))
 f284:=Tryz.func230.trans (congrArg some (by kernel_rfl))
 f285:=Tryz.func231.trans (congrArg some (by kernel_rfl))
 f286:=Tryz.func232.trans (congrArg some (by kernel_rfl))
 f287:=Tryz.func215.trans (congrArg some (by kernel_rfl))
 f316:=Tryz.func235.trans (congrArg some (by kernel_rfl))
 f317:=Tryz.func245.trans (congrArg some (by kernel_rfl))
 f318:=Tryz.func246.trans (congrArg some (by kernel_rfl))
 f319:=Tryz.func247.trans (congrArg some (by kernel_rfl))
 f320:=Tryz.func248.trans (congrArg some (by kernel_rfl))
 f321:=Tryz.func233.trans (congrArg some (by kernel_rfl))
 f322:=Tryz.func234.trans (congrArg some (by kernel_rfl))
 f337:=Tryz.func276.trans (congrArg some (by kernel_rfl))
 f338:=Tryz.func277.trans (congrArg some (by kernel_rfl))
 t0:=Tryz.underlying0
 a0:=Tryz.isAgg0
 z0:=Tryz.sizeOf0
 v0:=Tryz.zeroValue0
 t2:=Tryz.underlying2
 a2:=Tryz.isAgg2
 z2:=Tryz.sizeOf2
 v2:=Tryz.zeroValue2
 t3:=Tryz.underlying3
 a3:=Tryz.isAgg3
 z3:=Tryz.sizeOf3
 v3:=Tryz.zeroValue3
 t4:=Tryz.underlying4
 a4:=Tryz.isAgg4
 z4:=Tryz.sizeOf4
 v4:=Tryz.zeroValue4
 t5:=Tryz.underlying5
 a5:=Tryz.isAgg5
 z5:=Tryz.sizeOf5
 v5:=Tryz.zeroValue5
 t9:=Tryz.underlying9
 a9:=Tryz.isAgg9
 z9:=Tryz.sizeOf9
 v9:=Tryz.zeroValue9
 t20:=Tryz.underlying20
 a20:=Tryz.isAgg20
 z20:=Tryz.sizeOf20
 v20:=Tryz.zeroValue20
 t21:=Tryz.underlying21
 a21:=Tryz.isAgg21
 z21:=Tryz.sizeOf21
 v21:=Tryz.zeroValue21
 t37:=Tryz.underlying129
 a37:=Tryz.isAgg129
 z37:=Tryz.sizeOf129
 v37:=Tryz.zeroValue129
 t46:=Tryz.underlying132
 a46:=Tryz.isAgg132
 z46:=Tryz.sizeOf132
 v46:=Tryz.zeroValue132
 t51:=Tryz.underlying190
 a51:=Tryz.isAgg190
 z51:=Tryz.sizeOf190
 v51:=Tryz.zeroValue190
 t53:=Tryz.underlying90
 a53:=Tryz.isAgg90
 z53:=Tryz.sizeOf90
 v53:=Tryz.zeroValue90
 t75:=Tryz.underlying144
 a75:=Tryz.isAgg144
 z75:=Tryz.sizeOf144
 v75:=Tryz.zeroValue144
 t85:=Tryz.underlying214
 a85:=Tryz.isAgg214
 z85:=Tryz.sizeOf214
 v85:=Tryz.zeroValue214
 t127:=Tryz.underlying196
 a127:=Tryz.isAgg196
 z127:=Tryz.sizeOf196
 v127:=Tryz.zeroValue196
 t143:=Tryz.underlying325
 a143:=Tryz.isAgg325
 z143:=Tryz.sizeOf325
 v143:=Tryz.zeroValue325
 t145:=Tryz.underlying327
 a145:=Tryz.isAgg327
 z145:=Tryz.sizeOf327
 v145:=Tryz.zeroValue327
 t167:=Tryz.underlying289
 a167:=Tryz.isAgg289
 z167:=Tryz.sizeOf289
 v167:=Tryz.zeroValue289
 t168:=Tryz.underlying292
 a168:=Tryz.isAgg292
 z168:=Tryz.sizeOf292
 v168:=Tryz.zeroValue292
 t171:=Tryz.underlying307
 a171:=Tryz.isAgg307
 z171:=Tryz.sizeOf307
 v171:=Tryz.zeroValue307
 t173:=Tryz.underlying309
 a173:=Tryz.isAgg309
 z173:=Tryz.sizeOf309
 v173:=Tryz.zeroValue309
 t175:=Tryz.underlying290
 a175:=Tryz.isAgg290
 z175:=Tryz.sizeOf290
 v175:=Tryz.zeroValue290
 t210:=Tryz.underlying312
 a210:=Tryz.isAgg312
 z210:=Tryz.sizeOf312
 v210:=Tryz.zeroValue312
 t212:=Tryz.underlying322
 a212:=Tryz.isAgg322
 z212:=Tryz.sizeOf322
 v212:=Tryz.zeroValue322
 t213:=Tryz.underlying323
 a213:=Tryz.isAgg323
 z213:=Tryz.sizeOf323
 t232:=Tryz.underlying355
 a232:=Tryz.isAgg355
 z232:=Tryz.sizeOf355
 v232:=Tryz.zeroValue355
 t233:=Tryz.underlying381
 a233:=Tryz.isAgg381
 z233:=Tryz.sizeOf381
 v233:=Tryz.zeroValue381
 g15:=by kernel_rfl
 g16:=by kernel_rfl
 g17:=by kernel_rfl
 g18:=by kernel_rfl
 g19:=by kernel_rfl
 t80:=Tryz.underlying148
 a80:=Tryz.isAgg148
 z80:=Tryz.sizeOf148
 v80:=Tryz.zeroValue148
 i0:=by kernel_rfl
 i2:=by kernel_rfl
 i3:=by kernel_rfl
 i4:=by kernel_rfl
 i5:=by kernel_rfl
 i9:=by kernel_rfl
 i20:=by kernel_rfl
 i21:=by kernel_rfl
 i37:=by kernel_rfl
 i46:=by kernel_rfl
 i51:=by kernel_rfl
 i53:=by kernel_rfl
 i75:=by kernel_rfl
 i80:=by kernel_rfl
 i85:=by kernel_rfl
 i127:=by kernel_rfl
 i143:=by kernel_rfl
 i145:=by kernel_rfl
 i167:=by kernel_rfl
 i168:=by kernel_rfl
 i171:=by kernel_rfl
 i173:=by kernel_rfl
 i175:=by kernel_rfl
 i210:=by kernel_rfl
 i212:=by kernel_rfl
 i232:=by kernel_rfl
 i233:=by kernel_rfl
 m15:=by kernel_rfl
 m16:=by kernel_rfl
 m17:=by kernel_rfl
 m18:=by kernel_rfl
 m19:=by kernel_rfl
 c0:=by kernel_rfl
 c2:=by kernel_rfl
 c3:=by kernel_rfl
 c4:=by kernel_rfl
 c5:=by kernel_rfl
 c9:=by kernel_rfl
 c20:=by kernel_rfl
 c21:=by kernel_rfl
 c37:=by kernel_rfl
 c46:=by kernel_rfl
 c51:=by kernel_rfl
 c53:=by kernel_rfl
 c75:=by kernel_rfl
 c80:=by kernel_rfl
 c85:=by kernel_rfl
 c127:=by kernel_rfl
 c143:=by kernel_rfl
 c145:=by kernel_rfl
 c167:=by kernel_rfl
 c168:=by kernel_rfl
 c171:=by kernel_rfl
 c173:=by kernel_rfl
 c175:=by kernel_rfl
 c210:=by kernel_rfl
 c212:=by kernel_rfl
 c213:=by kernel_rfl
 c232:=by kernel_rfl
 c233:=by kernel_rfl}
open Go.RowKit in
theorem Tryz.strconv_ParseInt_10_at64_ok (s:ByteArray) (hmax:s.size<=9223372036854775806) (v:Int) (h:Lib.parseIntB 64 s.data.toList= .ok v) (w:World):
 Calls Tryz.prog 153 #[.string s,.int .i64 10,.int .i64 64] w fun e w'=>e= .returned (.tuple #[.int .i64 v,.nilIface])/\(w'=w\/∃t,w'=Lib.bytesWorld w 5 t):=Any.strconv_ParseInt_10_at64_ok Tryz.laysC174 s hmax v h w
open Go.RowKit in
theorem Tryz.strconv_ParseInt_10_at64_syntax_var (s:ByteArray) (hlim:s.size<=281474976710656) (h:Lib.parseIntB 64 s.data.toList=Lib.NumEnd.syntax) (tp:TypeId) (p:Value) (w:World) (hvar:w.var? Tryz.prog "strconv.ErrSyntax"=some #[.iface tp p]):
 Calls Tryz.prog 153 #[.string s,.int .i64 10,.int .i64 64] w fun e w'=>∃N,e= .returned (.tuple #[.int .i64 (0),.iface 292 (.pointer (some ⟨N,0,none⟩))])/\w.heap.size<=N/\w'.heap[N]? =some (.cells #[.string ⟨#[80,97,114,115,101,73,110,116]⟩,.string s,.iface tp p] 312 (0,0))/\Below w.heap.size w w':=Any.strconv_ParseInt_10_at64_syntax_var Tryz.laysC174 s hlim h tp p w hvar
open Go.RowKit in
theorem Tryz.strconv_ParseInt_10_at64_range_var (s:ByteArray) (hlim:s.size<=281474976710656) (h:Lib.parseIntB 64 s.data.toList= .range) (tp:TypeId) (p:Value) (w:World) (hvar:w.var? Tryz.prog "strconv.ErrRange"=some #[.iface tp p]):
 Calls Tryz.prog 153 #[.string s,.int .i64 10,.int .i64 64] w fun e w'=>∃N,e= .returned (.tuple #[.int .i64 (Lib.intSat 64 s.data.toList),.iface 292 (.pointer (some ⟨N,0,none⟩))])/\w.heap.size<=N/\w'.heap[N]? =some (.cells #[.string ⟨#[80,97,114,115,101,73,110,116]⟩,.string s,.iface tp p] 312 (0,0))/\Below w.heap.size w w':=Any.strconv_ParseInt_10_at64_range_var Tryz.laysC174 s hlim h tp p w hvar
def Tryz.lays264_ren:Go.Shelf.Ren:=⟨fun|264=>302|n=>n,fun|53=>90|46=>132|n=>n,fun|n=>n⟩
theorem Tryz.lays264:Go.Proofs.Lays.n264 Tryz.prog Tryz.lays264_ren:={
 mixed:=by kernel_rfl
 f264:=Tryz.func302.trans (congrArg some (by kernel_rfl))
 t46:=Tryz.underlying132
 a46:=Tryz.isAgg132
 z46:=Tryz.sizeOf132
 v46:=Tryz.zeroValue132
 t53:=Tryz.underlying90
 a53:=Tryz.isAgg90
 z53:=Tryz.sizeOf90
 v53:=Tryz.zeroValue90}
open Go.RowKit Go.Lib in
theorem Tryz.bits_Mul64 (x y:Nat) (hx:x<18446744073709551616) (hy:y<18446744073709551616) (w:World):
 Calls Tryz.prog 302 #[.int .u64 x,.int .u64 y] w fun e w'=>e= .returned (.tuple #[.int .u64 ((x*y/18446744073709551616:Nat):Int),.int .u64 ((x*y%18446744073709551616:Nat):Int)])/\w'=w:=Any.bits_Mul64 Tryz.lays264 x y hx hy w
end Go.Proofs
