/-
DERIVED: THE SHELF's CONTRACTS AT THIS DUMP, IN PLAIN WORDS (tools/lay-plain.mjs out of 'TryzShelf.lean', which tools/lay-shelf.mjs wrote): THE SAME DECLARATIONS UNDER THE SAME NAMES: 'import', 'namespace', 'open', 'def', 'theorem' AND NOTHING ELSE: no command of the shelf's: FOR A HAND-IN. Each laying: the table of numbers ('.._ren') and one theorem, a field a fact of the dump's own or the kernel's comparison; each contract: ONE APPLICATION.
-/
import Derived.Shelf.Bits.Mul64
import Derived.Shelf.LaysC
import Derived.Shelf.LaysM
import Derived.Shelf.Small.Bits
import Derived.Shelf.Small.Strs
import Derived.Shelf.Small.Utf8
import Derived.Shelf.Strconv.AppendInt10
import Derived.Shelf.Strconv.AppendUint10
import Derived.Shelf.Strconv.Atoi
import Derived.Shelf.Strconv.AtoiAll
import Derived.Shelf.Strconv.AtoiErrFast
import Derived.Shelf.Strconv.AtoiFail
import Derived.Shelf.Strconv.AtoiInnerAll
import Derived.Shelf.Strconv.AtoiLong
import Derived.Shelf.Strconv.Clone
import Derived.Shelf.Strconv.ErrVarParseInt
import Derived.Shelf.Strconv.Itoa0
import Derived.Shelf.Strconv.Itoa1
import Derived.Shelf.Strconv.Itoa2
import Derived.Shelf.Strconv.Itoa3
import Derived.Shelf.Strconv.Itoa4
import Derived.Shelf.Strconv.Lower
import Derived.Shelf.Strconv.ParseInt10
import Derived.Shelf.Strconv.ParseInt10All
import Derived.Shelf.Strconv.ParseInt10At16
import Derived.Shelf.Strconv.ParseInt10At32
import Derived.Shelf.Strconv.ParseInt10At64
import Derived.Shelf.Strconv.ParseInt10At8
import Derived.Shelf.Strconv.ParseIntEmpty
import Derived.Shelf.Strconv.ParseIntPublic10
import Derived.Shelf.Strconv.ParseUint10
import Derived.Shelf.Strconv.ParseUint10Any
import Derived.Shelf.Strconv.ParseUint10At
import Derived.Shelf.Strconv.ParseUint10Empty
import Derived.Shelf.Strconv.ParseUint10b16
import Derived.Shelf.Strconv.ParseUint10b32
import Derived.Shelf.Strconv.ParseUint10b64
import Derived.Shelf.Strconv.ParseUint10b8
import Derived.Shelf.Strconv.ParseUintEmpty
import Derived.Shelf.Strconv.RangeError
import Derived.Shelf.Strconv.SyntaxError
import Derived.Shelf.Strconv.ToError
import Derived.Shelf.Strconv.ToErrorRange
import Derived.Shelf.Strings.Builder1
import Derived.Shelf.Strings.Builder2
import Derived.Shelf.Strings.Builder2Cap
import Derived.Shelf.Strings.BuilderCap
import Derived.Shelf.Strings.BuilderF
import Derived.Shelf.Strings.BuilderK
import Derived.Shelf.Strings.BuilderRune
import Derived.Shelf.Strings.CaseAny
import Derived.Shelf.Strings.MapAny
import Derived.Shelf.Strings.MapGrows
import Derived.Shelf.Strings.OnBuilder
import Derived.Shelf.Strings.Search1
import Derived.Shelf.Unicode.CaseConvert
import Derived.Shelf.Unicode.CaseLaid
import Derived.Shelf.Unicode.CaseLookup
import Derived.Shelf.Unicode.CaseTo
import Derived.Shelf.Unicode.DecodeAny
import Derived.Shelf.Unicode.DecodeSlow
import Derived.Shelf.Unicode.Latin
import Derived.Test.YtlbjfafbahphgaaGreatDoorProg
set_option linter.unusedVariables false
set_option linter.unusedSimpArgs false
set_option maxRecDepth 100000
set_option maxHeartbeats 8000000
namespace Go.Proofs
open Go.Shelf
def Tryz.lays159_ren:Go.Shelf.Ren:=⟨fun|159=>38|165=>77|166=>78|167=>79|169=>80|230=>81|204=>82|240=>134|241=>135|197=>136|118=>137|168=>138|270=>139|262=>140|276=>179|277=>180|260=>181|242=>182|313=>183|278=>211|274=>212|275=>213|n=>n,fun|9=>9|4=>4|3=>3|5=>5|72=>142|0=>0|76=>146|75=>145|107=>151|70=>140|20=>20|37=>130|127=>197|21=>21|105=>198|164=>248|162=>254|203=>252|119=>281|46=>133|139=>284|138=>283|51=>191|160=>285|208=>306|206=>304|80=>149|n=>n,fun|13=>1|3=>3|4=>4|n=>n⟩
theorem Tryz.lays159:Go.Proofs.Lays.n159 Tryz.prog Tryz.lays159_ren:={
 mixed:=by kernel_rfl
 f118:=Tryz.func137.trans (congrArg some (by kernel_rfl))
 f159:=Tryz.func38.trans (congrArg some (by kernel_rfl))
 f165:=Tryz.func77.trans (congrArg some (by kernel_rfl))
 f166:=Tryz.func78.trans (congrArg some (by kernel_rfl))
 f167:=Tryz.func79.trans (congrArg some (by kernel_rfl))
 f168:=Tryz.func138.trans (congrArg some (by kernel_rfl))
 f169:=Tryz.func80.trans (congrArg some (by kernel_rfl))
 f197:=Tryz.func136.trans (congrArg some (by kernel_rfl))
 f204:=Tryz.func82.trans (congrArg some (by kernel_rfl))
 f230:=Tryz.func81.trans (congrArg some (by kernel_rfl))
 f240:=Tryz.func134.trans (congrArg some (by kernel_rfl))
 f241:=Tryz.func135.trans (congrArg some (by kernel_rfl))
 f242:=Tryz.func182.trans (congrArg some (by kernel_rfl))
 f260:=Tryz.func181.trans (congrArg some (by kernel_rfl))
 f262:=Tryz.func140.trans (congrArg some (by kernel_rfl))
 f270:=Tryz.func139.trans (congrArg some (by kernel_rfl))
 f274:=Tryz.func212.trans (congrArg some (by kernel_rfl))
 f275:=Tryz.func213.trans (congrArg some (by kernel_rfl))
 f276:=Tryz.func179.trans (congrArg some (by kernel_rfl))
 f277:=Tryz.func180.trans (congrArg some (by kernel_rfl))
 f278:=Tryz.func211.trans (congrArg some (by kernel_rfl))
 f313:=Tryz.func183.trans (congrArg some (by kernel_rfl))
 t0:=Tryz.underlying0
 a0:=Tryz.isAgg0
 z0:=Tryz.sizeOf0
 v0:=Tryz.zeroValue0
 t3:=Tryz.underlying3
 a3:=Tryz.isAgg3
 z3:=Tryz.sizeOf3
 v3:=Tryz.zeroValue3
 t4:=Tryz.underlying4
 a4:=Tryz.isAgg4
 z4:=Tryz.sizeOf4
 v4:=Tryz.zeroValue4
 t5:=Tryz.underlying5
 a5:=Tryz.isAgg5
 z5:=Tryz.sizeOf5
 v5:=Tryz.zeroValue5
 t9:=Tryz.underlying9
 a9:=Tryz.isAgg9
 z9:=Tryz.sizeOf9
 v9:=Tryz.zeroValue9
 t20:=Tryz.underlying20
 a20:=Tryz.isAgg20
 z20:=Tryz.sizeOf20
 v20:=Tryz.zeroValue20
 t21:=Tryz.underlying21
 a21:=Tryz.isAgg21
 z21:=Tryz.sizeOf21
 v21:=Tryz.zeroValue21
 t37:=Tryz.underlying130
 a37:=Tryz.isAgg130
 z37:=Tryz.sizeOf130
 v37:=Tryz.zeroValue130
 t46:=Tryz.underlying133
 a46:=Tryz.isAgg133
 z46:=Tryz.sizeOf133
 v46:=Tryz.zeroValue133
 t51:=Tryz.underlying191
 a51:=Tryz.isAgg191
 z51:=Tryz.sizeOf191
 v51:=Tryz.zeroValue191
 t70:=Tryz.underlying140
 a70:=Tryz.isAgg140
 z70:=Tryz.sizeOf140
 v70:=Tryz.zeroValue140
 t72:=Tryz.underlying142
 a72:=Tryz.isAgg142
 z72:=Tryz.sizeOf142
 v72:=Tryz.zeroValue142
 t75:=Tryz.underlying145
 a75:=Tryz.isAgg145
 z75:=Tryz.sizeOf145
 v75:=Tryz.zeroValue145
 t76:=Tryz.underlying146
 a76:=Tryz.isAgg146
 z76:=Tryz.sizeOf146
 v76:=Tryz.zeroValue146
 t105:=Tryz.underlying198
 a105:=Tryz.isAgg198
 z105:=Tryz.sizeOf198
 v105:=Tryz.zeroValue198
 t107:=Tryz.underlying151
 a107:=Tryz.isAgg151
 z107:=Tryz.sizeOf151
 v107:=Tryz.zeroValue151
 t119:=Tryz.underlying281
 a119:=Tryz.isAgg281
 z119:=Tryz.sizeOf281
 t127:=Tryz.underlying197
 a127:=Tryz.isAgg197
 z127:=Tryz.sizeOf197
 v127:=Tryz.zeroValue197
 t138:=Tryz.underlying283
 a138:=Tryz.isAgg283
 z138:=Tryz.sizeOf283
 v138:=Tryz.zeroValue283
 t139:=Tryz.underlying284
 a139:=Tryz.isAgg284
 z139:=Tryz.sizeOf284
 v139:=Tryz.zeroValue284
 t160:=Tryz.underlying285
 a160:=Tryz.isAgg285
 z160:=Tryz.sizeOf285
 v160:=Tryz.zeroValue285
 t162:=Tryz.underlying254
 a162:=Tryz.isAgg254
 z162:=Tryz.sizeOf254
 v162:=Tryz.zeroValue254
 t164:=Tryz.underlying248
 a164:=Tryz.isAgg248
 z164:=Tryz.sizeOf248
 v164:=Tryz.zeroValue248
 t203:=Tryz.underlying252
 a203:=Tryz.isAgg252
 z203:=Tryz.sizeOf252
 v203:=Tryz.zeroValue252
 t206:=Tryz.underlying304
 a206:=Tryz.isAgg304
 z206:=Tryz.sizeOf304
 v206:=Tryz.zeroValue304
 t208:=Tryz.underlying306
 a208:=Tryz.isAgg306
 z208:=Tryz.sizeOf306
 v208:=Tryz.zeroValue306
 g3:=by kernel_rfl
 g4:=by kernel_rfl
 g13:=by kernel_rfl}
theorem Tryz.Builder_Extra_159:Builder.Extra Tryz.prog Tryz.lays159_ren:={
 sizeBuilder:=by kernel_rfl
 liesBuilder:=by kernel_rfl
 t5:=Tryz.underlying5
 a5:=Tryz.isAgg5
 z5:=Tryz.sizeOf5
 v5:=Tryz.zeroValue5
 infoByte:=by kernel_rfl
 cellsByte:=by kernel_rfl
 sizeByte:=by kernel_rfl
 neB5:=by decide}
open Go.RowKit in
theorem Tryz.strings_ToLower_ascii (s:ByteArray) (w:World) (hs:s.size<=140737488355328) (hascii:∀(j:Nat) (b:UInt8),s.data.toList[j]? =some b->b.toNat<128):
 Calls Tryz.prog 38 #[.string s] w fun e w'=>e= .returned (.string ⟨(Lib.toLowerA s.data.toList).toArray⟩)/\Below w.heap.size w w':=Any.strings_ToLower_ascii Tryz.lays159 Tryz.Builder_Extra_159 s w hs hascii
def Tryz.lays137_ren:Go.Shelf.Ren:=⟨fun|137=>201|217=>225|266=>243|n=>n,fun|9=>9|5=>5|3=>3|n=>n,fun|n=>n⟩
theorem Tryz.lays137:Go.Proofs.Lays.n137 Tryz.prog Tryz.lays137_ren:={
 mixed:=by kernel_rfl
 f137:=Tryz.func201.trans (congrArg some (by kernel_rfl))
 f217:=Tryz.func225.trans (congrArg some (by kernel_rfl))
 f266:=Tryz.func243.trans (congrArg some (by kernel_rfl))
 t3:=Tryz.underlying3
 a3:=Tryz.isAgg3
 z3:=Tryz.sizeOf3
 v3:=Tryz.zeroValue3
 t5:=Tryz.underlying5
 a5:=Tryz.isAgg5
 z5:=Tryz.sizeOf5
 v5:=Tryz.zeroValue5
 t9:=Tryz.underlying9
 a9:=Tryz.isAgg9
 z9:=Tryz.sizeOf9
 v9:=Tryz.zeroValue9}
open Go.RowKit in
theorem Tryz.strings_IndexByte (s:ByteArray) (c:Int) (w:World):
 Calls Tryz.prog 201 #[.string s,.int .u8 c] w fun e w'=>e= .returned (.int .i64 (Lib.indexByte s.data.toList c.toNat.toUInt8))/\w'=w:=Any.strings_IndexByte Tryz.lays137 s c w
def Tryz.lays172_ren:Go.Shelf.Ren:=⟨fun|172=>200|244=>224|245=>192|247=>191|279=>217|280=>218|281=>219|282=>220|287=>216|316=>236|171=>238|205=>237|321=>234|322=>235|243=>250|246=>215|283=>230|284=>231|285=>232|286=>233|129=>130|317=>246|318=>247|319=>248|320=>249|337=>277|338=>278|n=>n,fun|9=>9|3=>3|75=>145|76=>146|4=>4|5=>5|167=>290|37=>130|0=>0|85=>215|2=>2|168=>293|53=>91|175=>291|46=>133|210=>313|127=>197|145=>328|143=>326|21=>21|171=>308|173=>310|212=>323|51=>191|20=>20|213=>324|232=>356|233=>382|80=>149|n=>n,fun|15=>5|16=>6|17=>7|18=>14|19=>15|n=>n⟩
theorem Tryz.lays172:Go.Proofs.Lays.n172 Tryz.prog Tryz.lays172_ren:={
 mixed:=by kernel_rfl
 f129:=Tryz.func130.trans (congrArg some (by kernel_rfl))
 f171:=Tryz.func238.trans (congrArg some (by kernel_rfl))
 f172:=Tryz.func200.trans (congrArg some (by kernel_rfl))
 f205:=Tryz.func237.trans (congrArg some (by kernel_rfl))
 f243:=Tryz.func250.trans (congrArg some (by kernel_rfl))
 f244:=Tryz.func224.trans (congrArg some (by kernel_rfl))
 f245:=Tryz.func192.trans (congrArg some (by kernel_rfl))
 f246:=Tryz.func215.trans (congrArg some (by kernel_rfl))
 f247:=Tryz.func191.trans (congrArg some (by kernel_rfl))
 f279:=Tryz.func217.trans (congrArg some (by kernel_rfl))
 f280:=Tryz.func218.trans (congrArg some (by kernel_rfl))
 f281:=Tryz.func219.trans (congrArg some (by kernel_rfl))
 f282:=Tryz.func220.trans (congrArg some (by kernel_rfl))
 f283:=Tryz.func230.trans (congrArg some (by kernel_rfl))
 f284:=Tryz.func231.trans (congrArg some (by kernel_rfl))
 f285:=Tryz.func232.trans (congrArg some (by kernel_rfl))
 f286:=Tryz.func233.trans (congrArg some (by kernel_rfl))
 f287:=Tryz.func216.trans (congrArg some (by kernel_rfl))
 f316:=Tryz.func236.trans (congrArg some (by kernel_rfl))
 f317:=Tryz.func246.trans (congrArg some (by kernel_rfl))
 f318:=Tryz.func247.trans (congrArg some (by kernel_rfl))
 f319:=Tryz.func248.trans (congrArg some (by kernel_rfl))
 f320:=Tryz.func249.trans (congrArg some (by kernel_rfl))
 f321:=Tryz.func234.trans (congrArg some (by kernel_rfl))
 f322:=Tryz.func235.trans (congrArg some (by kernel_rfl))
 f337:=Tryz.func277.trans (congrArg some (by kernel_rfl))
 f338:=Tryz.func278.trans (congrArg some (by kernel_rfl))
 t0:=Tryz.underlying0
 a0:=Tryz.isAgg0
 z0:=Tryz.sizeOf0
 v0:=Tryz.zeroValue0
 t2:=Tryz.underlying2
 a2:=Tryz.isAgg2
 z2:=Tryz.sizeOf2
 v2:=Tryz.zeroValue2
 t3:=Tryz.underlying3
 a3:=Tryz.isAgg3
 z3:=Tryz.sizeOf3
 v3:=Tryz.zeroValue3
 t4:=Tryz.underlying4
 a4:=Tryz.isAgg4
 z4:=Tryz.sizeOf4
 v4:=Tryz.zeroValue4
 t5:=Tryz.underlying5
 a5:=Tryz.isAgg5
 z5:=Tryz.sizeOf5
 v5:=Tryz.zeroValue5
 t9:=Tryz.underlying9
 a9:=Tryz.isAgg9
 z9:=Tryz.sizeOf9
 v9:=Tryz.zeroValue9
 t20:=Tryz.underlying20
 a20:=Tryz.isAgg20
 z20:=Tryz.sizeOf20
 v20:=Tryz.zeroValue20
 t21:=Tryz.underlying21
 a21:=Tryz.isAgg21
 z21:=Tryz.sizeOf21
 v21:=Tryz.zeroValue21
 t37:=Tryz.underlying130
 a37:=Tryz.isAgg130
 z37:=Tryz.sizeOf130
 v37:=Tryz.zeroValue130
 t46:=Tryz.underlying133
 a46:=Tryz.isAgg133
 z46:=Tryz.sizeOf133
 v46:=Tryz.zeroValue133
 t51:=Tryz.underlying191
 a51:=Tryz.isAgg191
 z51:=Tryz.sizeOf191
 v51:=Tryz.zeroValue191
 t53:=Tryz.underlying91
 a53:=Tryz.isAgg91
 z53:=Tryz.sizeOf91
 v53:=Tryz.zeroValue91
 t75:=Tryz.underlying145
 a75:=Tryz.isAgg145
 z75:=Tryz.sizeOf145
 v75:=Tryz.zeroValue145
 t76:=Tryz.underlying146
 a76:=Tryz.isAgg146
 z76:=Tryz.sizeOf146
 v76:=Tryz.zeroValue146
 t85:=Tryz.underlying215
 a85:=Tryz.isAgg215
 z85:=Tryz.sizeOf215
 v85:=Tryz.zeroValue215
 t127:=Tryz.underlying197
 a127:=Tryz.isAgg197
 z127:=Tryz.sizeOf197
 v127:=Tryz.zeroValue197
 t143:=Tryz.underlying326
 a143:=Tryz.isAgg326
 z143:=Tryz.sizeOf326
 v143:=Tryz.zeroValue326
 t145:=Tryz.underlying328
 a145:=Tryz.isAgg328
 z145:=Tryz.sizeOf328
 v145:=Tryz.zeroValue328
 t167:=Tryz.underlying290
 a167:=Tryz.isAgg290
 z167:=Tryz.sizeOf290
 v167:=Tryz.zeroValue290
 t168:=Tryz.underlying293
 a168:=Tryz.isAgg293
 z168:=Tryz.sizeOf293
 v168:=Tryz.zeroValue293
 t171:=Tryz.underlying308
 a171:=Tryz.isAgg308
 z171:=Tryz.sizeOf308
 v171:=Tryz.zeroValue308
 t173:=Tryz.underlying310
 a173:=Tryz.isAgg310
 z173:=Tryz.sizeOf310
 v173:=Tryz.zeroValue310
 t175:=Tryz.underlying291
 a175:=Tryz.isAgg291
 z175:=Tryz.sizeOf291
 v175:=Tryz.zeroValue291
 t210:=Tryz.underlying313
 a210:=Tryz.isAgg313
 z210:=Tryz.sizeOf313
 v210:=Tryz.zeroValue313
 t212:=Tryz.underlying323
 a212:=Tryz.isAgg323
 z212:=Tryz.sizeOf323
 v212:=Tryz.zeroValue323
 t213:=Tryz.underlying324
 a213:=Tryz.isAgg324
 z213:=Tryz.sizeOf324
 t232:=Tryz.underlying356
 a232:=Tryz.isAgg356
 z232:=Tryz.sizeOf356
 v232:=Tryz.zeroValue356
 t233:=Tryz.underlying382
 a233:=Tryz.isAgg382
 z233:=Tryz.sizeOf382
 v233:=Tryz.zeroValue382
 g15:=by kernel_rfl
 g16:=by kernel_rfl
 g17:=by kernel_rfl
 g18:=by kernel_rfl
 g19:=by kernel_rfl}
open Go.RowKit in
theorem Tryz.strconv_Atoi (s:ByteArray) (n:Int) (hl:s.size<=18) (h:Lib.atoi s.data.toList=some n) (w:World):
 Calls Tryz.prog 200 #[.string s] w fun e w'=>e= .returned (.tuple #[.int .i64 n,.nilIface])/\∃t,w'=Lib.bytesWorld w 5 t:=Any.strconv_Atoi Tryz.lays172 s n hl h w
def Tryz.lays129_ren:Go.Shelf.Ren:=⟨fun|129=>130|n=>n,fun|53=>91|3=>3|4=>4|46=>133|5=>5|9=>9|n=>n,fun|n=>n⟩
theorem Tryz.lays129:Go.Proofs.Lays.n129 Tryz.prog Tryz.lays129_ren:={
 mixed:=by kernel_rfl
 f129:=Tryz.func130.trans (congrArg some (by kernel_rfl))
 t3:=Tryz.underlying3
 a3:=Tryz.isAgg3
 z3:=Tryz.sizeOf3
 v3:=Tryz.zeroValue3
 t4:=Tryz.underlying4
 a4:=Tryz.isAgg4
 z4:=Tryz.sizeOf4
 v4:=Tryz.zeroValue4
 t5:=Tryz.underlying5
 a5:=Tryz.isAgg5
 z5:=Tryz.sizeOf5
 v5:=Tryz.zeroValue5
 t9:=Tryz.underlying9
 a9:=Tryz.isAgg9
 z9:=Tryz.sizeOf9
 v9:=Tryz.zeroValue9
 t46:=Tryz.underlying133
 a46:=Tryz.isAgg133
 z46:=Tryz.sizeOf133
 v46:=Tryz.zeroValue133
 t53:=Tryz.underlying91
 a53:=Tryz.isAgg91
 z53:=Tryz.sizeOf91
 v53:=Tryz.zeroValue91}
theorem Tryz.bits_Len64 (x:Int) (w:World) (h0:0<=x) (h1:x<=18446744073709551615):
 Calls Tryz.prog 130 #[.int .u64 x] w fun e w'=>e= .returned (.int .i64 (Lib.bitLen x.toNat))/\w'=w:=Any.bits_Len64 Tryz.lays129 x w h0 h1
def Tryz.laysM284_ren:Go.Shelf.Ren:=⟨fun|284=>231|129=>130|317=>246|318=>247|n=>n,fun|53=>91|3=>3|212=>323|0=>0|4=>4|46=>133|5=>5|9=>9|n=>n,fun|17=>7|n=>n⟩
theorem Tryz.laysM284:Go.Proofs.LaysM.n284 Tryz.prog Tryz.laysM284_ren:={
 mixed:=by kernel_rfl
 f129:=Tryz.func130.trans (congrArg some (by kernel_rfl))
 f284:=Tryz.func231.trans (congrArg some (by kernel_rfl))
 f317:=Tryz.func246.trans (congrArg some (by kernel_rfl))
 f318:=Tryz.func247.trans (congrArg some (by kernel_rfl))
 t0:=Tryz.underlying0
 a0:=Tryz.isAgg0
 z0:=Tryz.sizeOf0
 v0:=Tryz.zeroValue0
 t3:=Tryz.underlying3
 a3:=Tryz.isAgg3
 z3:=Tryz.sizeOf3
 v3:=Tryz.zeroValue3
 t4:=Tryz.underlying4
 a4:=Tryz.isAgg4
 z4:=Tryz.sizeOf4
 v4:=Tryz.zeroValue4
 t5:=Tryz.underlying5
 a5:=Tryz.isAgg5
 z5:=Tryz.sizeOf5
 v5:=Tryz.zeroValue5
 t9:=Tryz.underlying9
 a9:=Tryz.isAgg9
 z9:=Tryz.sizeOf9
 v9:=Tryz.zeroValue9
 t46:=Tryz.underlying133
 a46:=Tryz.isAgg133
 z46:=Tryz.sizeOf133
 v46:=Tryz.zeroValue133
 t53:=Tryz.underlying91
 a53:=Tryz.isAgg91
 z53:=Tryz.sizeOf91
 v53:=Tryz.zeroValue91
 t212:=Tryz.underlying323
 a212:=Tryz.isAgg323
 z212:=Tryz.sizeOf323
 v212:=Tryz.zeroValue323
 g17:=by kernel_rfl
 i0:=by kernel_rfl
 i3:=by kernel_rfl
 i4:=by kernel_rfl
 i5:=by kernel_rfl
 i9:=by kernel_rfl
 i46:=by kernel_rfl
 i53:=by kernel_rfl
 i212:=by kernel_rfl
 m17:=by kernel_rfl}
open Go.Lib in
theorem Tryz.internal_strconv_numDigits (u:Nat) (h1:1<=u) (h2:u<18446744073709551616) (w:World) (htab:Lib.TabIs Tryz.prog w "internal/strconv.uint64pow10" .u64 Lib.pow10Tab):
 Calls Tryz.prog 231 #[.int .u64 u] w fun e w'=>e= .returned (.int .i64 (Lib.nDigits u))/\w'=w:=Any.internal_strconv_numDigits Tryz.laysM284 u h1 h2 w htab
def Tryz.lays285_ren:Go.Shelf.Ren:=⟨fun|285=>232|n=>n,fun|37=>130|53=>91|3=>3|4=>4|51=>191|9=>9|5=>5|0=>0|n=>n,fun|n=>n⟩
theorem Tryz.lays285:Go.Proofs.Lays.n285 Tryz.prog Tryz.lays285_ren:={
 mixed:=by kernel_rfl
 f285:=Tryz.func232.trans (congrArg some (by kernel_rfl))
 t0:=Tryz.underlying0
 a0:=Tryz.isAgg0
 z0:=Tryz.sizeOf0
 v0:=Tryz.zeroValue0
 t3:=Tryz.underlying3
 a3:=Tryz.isAgg3
 z3:=Tryz.sizeOf3
 v3:=Tryz.zeroValue3
 t4:=Tryz.underlying4
 a4:=Tryz.isAgg4
 z4:=Tryz.sizeOf4
 v4:=Tryz.zeroValue4
 t5:=Tryz.underlying5
 a5:=Tryz.isAgg5
 z5:=Tryz.sizeOf5
 v5:=Tryz.zeroValue5
 t9:=Tryz.underlying9
 a9:=Tryz.isAgg9
 z9:=Tryz.sizeOf9
 v9:=Tryz.zeroValue9
 t37:=Tryz.underlying130
 a37:=Tryz.isAgg130
 z37:=Tryz.sizeOf130
 v37:=Tryz.zeroValue130
 t51:=Tryz.underlying191
 a51:=Tryz.isAgg191
 z51:=Tryz.sizeOf191
 v51:=Tryz.zeroValue191
 t53:=Tryz.underlying91
 a53:=Tryz.isAgg91
 z53:=Tryz.sizeOf91
 v53:=Tryz.zeroValue91}
open Go.RowKit Go.Sort Go.Lib in
theorem Tryz.internal_strconv_formatBase10 (blk off cap:Nat) (u:Nat) (d:Array UInt8) (w:World) (hH:Holds (fun (b:UInt8)=>Value.int .u8 (b.toNat:Int)) w blk off d) (hu:u<10 ^d.size) (hu64:u<18446744073709551616) (hsz:d.size<4611686018427387904):
 Calls Tryz.prog 232 #[.slice (some ⟨blk,off,none⟩) d.size cap,.int .u64 u] w fun e w'=>
  e= .returned (.tuple #[])/\∃(n v':Nat) (dk:Array UInt8),w'=(putRow (fun (b:UInt8)=>Value.int .u8 (b.toNat:Int)) w blk off dk).drewN n/\FmtInv d.size u 0 v' dk:=Any.internal_strconv_formatBase10 Tryz.lays285 blk off cap u d w hH hu hu64 hsz
def Tryz.laysM173_ren:Go.Shelf.Ren:=⟨fun|173=>190|246=>215|283=>230|284=>231|285=>232|286=>233|129=>130|317=>246|318=>247|319=>248|320=>249|337=>277|338=>278|n=>n,fun|2=>2|3=>3|9=>9|4=>4|171=>308|0=>0|53=>91|37=>130|5=>5|173=>310|212=>323|51=>191|20=>20|213=>324|46=>133|232=>356|233=>382|n=>n,fun|17=>7|18=>14|19=>15|n=>n⟩
theorem Tryz.laysM173:Go.Proofs.LaysM.n173 Tryz.prog Tryz.laysM173_ren:={
 mixed:=by kernel_rfl
 f129:=Tryz.func130.trans (congrArg some (by kernel_rfl))
 f173:=Tryz.func190.trans (congrArg some (by kernel_rfl))
 f246:=Tryz.func215.trans (congrArg some (by kernel_rfl))
 f283:=Tryz.func230.trans (congrArg some (by kernel_rfl))
 f284:=Tryz.func231.trans (congrArg some (by kernel_rfl))
 f285:=Tryz.func232.trans (congrArg some (by kernel_rfl))
 f286:=Tryz.func233.trans (congrArg some (by kernel_rfl))
 f317:=Tryz.func246.trans (congrArg some (by kernel_rfl))
 f318:=Tryz.func247.trans (congrArg some (by kernel_rfl))
 f319:=Tryz.func248.trans (congrArg some (by kernel_rfl))
 f320:=Tryz.func249.trans (congrArg some (by kernel_rfl))
 f337:=Tryz.func277.trans (congrArg some (by kernel_rfl))
 f338:=Tryz.func278.trans (congrArg some (by kernel_rfl))
 t0:=Tryz.underlying0
 a0:=Tryz.isAgg0
 z0:=Tryz.sizeOf0
 v0:=Tryz.zeroValue0
 t2:=Tryz.underlying2
 a2:=Tryz.isAgg2
 z2:=Tryz.sizeOf2
 v2:=Tryz.zeroValue2
 t3:=Tryz.underlying3
 a3:=Tryz.isAgg3
 z3:=Tryz.sizeOf3
 v3:=Tryz.zeroValue3
 t4:=Tryz.underlying4
 a4:=Tryz.isAgg4
 z4:=Tryz.sizeOf4
 v4:=Tryz.zeroValue4
 t5:=Tryz.underlying5
 a5:=Tryz.isAgg5
 z5:=Tryz.sizeOf5
 v5:=Tryz.zeroValue5
 t9:=Tryz.underlying9
 a9:=Tryz.isAgg9
 z9:=Tryz.sizeOf9
 v9:=Tryz.zeroValue9
 t20:=Tryz.underlying20
 a20:=Tryz.isAgg20
 z20:=Tryz.sizeOf20
 v20:=Tryz.zeroValue20
 t37:=Tryz.underlying130
 a37:=Tryz.isAgg130
 z37:=Tryz.sizeOf130
 v37:=Tryz.zeroValue130
 t46:=Tryz.underlying133
 a46:=Tryz.isAgg133
 z46:=Tryz.sizeOf133
 v46:=Tryz.zeroValue133
 t51:=Tryz.underlying191
 a51:=Tryz.isAgg191
 z51:=Tryz.sizeOf191
 v51:=Tryz.zeroValue191
 t53:=Tryz.underlying91
 a53:=Tryz.isAgg91
 z53:=Tryz.sizeOf91
 v53:=Tryz.zeroValue91
 t171:=Tryz.underlying308
 a171:=Tryz.isAgg308
 z171:=Tryz.sizeOf308
 v171:=Tryz.zeroValue308
 t173:=Tryz.underlying310
 a173:=Tryz.isAgg310
 z173:=Tryz.sizeOf310
 v173:=Tryz.zeroValue310
 t212:=Tryz.underlying323
 a212:=Tryz.isAgg323
 z212:=Tryz.sizeOf323
 v212:=Tryz.zeroValue323
 t213:=Tryz.underlying324
 a213:=Tryz.isAgg324
 z213:=Tryz.sizeOf324
 t232:=Tryz.underlying356
 a232:=Tryz.isAgg356
 z232:=Tryz.sizeOf356
 v232:=Tryz.zeroValue356
 t233:=Tryz.underlying382
 a233:=Tryz.isAgg382
 z233:=Tryz.sizeOf382
 v233:=Tryz.zeroValue382
 g17:=by kernel_rfl
 g18:=by kernel_rfl
 g19:=by kernel_rfl
 i0:=by kernel_rfl
 i2:=by kernel_rfl
 i3:=by kernel_rfl
 i4:=by kernel_rfl
 i5:=by kernel_rfl
 i9:=by kernel_rfl
 i20:=by kernel_rfl
 i37:=by kernel_rfl
 i46:=by kernel_rfl
 i51:=by kernel_rfl
 i53:=by kernel_rfl
 i171:=by kernel_rfl
 i173:=by kernel_rfl
 i212:=by kernel_rfl
 i232:=by kernel_rfl
 i233:=by kernel_rfl
 m17:=by kernel_rfl
 m18:=by kernel_rfl
 m19:=by kernel_rfl}
open Go.RowKit Go.Sort Go.Lib in
theorem Tryz.strconv_FormatInt_10 (n:Int) (h0: -9223372036854775808<=n) (h1:n<=9223372036854775807) (w:World) (htab:Lib.TabIs Tryz.prog w "internal/strconv.uint64pow10" .u64 Lib.pow10Tab):
 Calls Tryz.prog 190 #[.int .i64 n,.int .i64 10] w fun e w'=>e= .returned (.string ⟨(Lib.itoa n).toArray⟩)/\∃k os,w'=grow (w.drewN k) os:=Any.strconv_FormatInt_10 Tryz.laysM173 n h0 h1 w htab
def Tryz.laysC245_ren:Go.Shelf.Ren:=⟨fun|245=>192|279=>217|280=>218|281=>219|282=>220|316=>236|171=>238|205=>237|243=>250|246=>215|283=>230|284=>231|285=>232|286=>233|129=>130|317=>246|318=>247|319=>248|320=>249|337=>277|338=>278|n=>n,fun|9=>9|3=>3|75=>145|167=>290|4=>4|168=>293|210=>313|37=>130|0=>0|127=>197|145=>328|143=>326|2=>2|171=>308|53=>91|5=>5|173=>310|212=>323|51=>191|20=>20|213=>324|46=>133|232=>356|233=>382|80=>149|n=>n,fun|15=>5|16=>6|17=>7|18=>14|19=>15|n=>n⟩
theorem Tryz.laysC245:Go.Proofs.LaysC.n245 Tryz.prog Tryz.laysC245_ren:={
 mixed:=by kernel_rfl
 f129:=Tryz.func130.trans (congrArg some (by kernel_rfl))
 f171:=Tryz.func238.trans (congrArg some (by kernel_rfl))
 f205:=Tryz.func237.trans (congrArg some (by kernel_rfl))
 f243:=Tryz.func250.trans (congrArg some (by kernel_rfl))
 f245:=Tryz.func192.trans (congrArg some (by kernel_rfl))
 f246:=Tryz.func215.trans (congrArg some (by kernel_rfl))
 f279:=Tryz.func217.trans (congrArg some (by kernel_rfl))
 f280:=Tryz.func218.trans (congrArg some (by kernel_rfl))
 f281:=Tryz.func219.trans (congrArg some (by kernel_rfl))
 f282:=Tryz.func220.trans (congrArg some (by kernel_rfl))
 f283:=Tryz.func230.trans (congrArg some (by kernel_rfl))
 f284:=Tryz.func231.trans (congrArg some (by kernel_rfl))
 f285:=Tryz.func232.trans (congrArg some (by kernel_rfl))
 f286:=Tryz.func233.trans (congrArg some (by kernel_rfl))
 f316:=Tryz.func236.trans (congrArg some (by kernel_rfl))
 f317:=Tryz.func246.trans (congrArg some (by kernel_rfl))
 f318:=Tryz.func247.trans (congrArg some (by kernel_rfl))
 f319:=Tryz.func248.trans (congrArg some (by kernel_rfl))
 f320:=Tryz.func249.trans (congrArg some (by kernel_rfl))
 f337:=Tryz.func277.trans (congrArg some (by kernel_rfl))
 f338:=Tryz.func278.trans (congrArg some (by kernel_rfl))
 t0:=Tryz.underlying0
 a0:=Tryz.isAgg0
 z0:=Tryz.sizeOf0
 v0:=Tryz.zeroValue0
 t2:=Tryz.underlying2
 a2:=Tryz.isAgg2
 z2:=Tryz.sizeOf2
 v2:=Tryz.zeroValue2
 t3:=Tryz.underlying3
 a3:=Tryz.isAgg3
 z3:=Tryz.sizeOf3
 v3:=Tryz.zeroValue3
 t4:=Tryz.underlying4
 a4:=Tryz.isAgg4
 z4:=Tryz.sizeOf4
 v4:=Tryz.zeroValue4
 t5:=Tryz.underlying5
 a5:=Tryz.isAgg5
 z5:=Tryz.sizeOf5
 v5:=Tryz.zeroValue5
 t9:=Tryz.underlying9
 a9:=Tryz.isAgg9
 z9:=Tryz.sizeOf9
 v9:=Tryz.zeroValue9
 t20:=Tryz.underlying20
 a20:=Tryz.isAgg20
 z20:=Tryz.sizeOf20
 v20:=Tryz.zeroValue20
 t37:=Tryz.underlying130
 a37:=Tryz.isAgg130
 z37:=Tryz.sizeOf130
 v37:=Tryz.zeroValue130
 t46:=Tryz.underlying133
 a46:=Tryz.isAgg133
 z46:=Tryz.sizeOf133
 v46:=Tryz.zeroValue133
 t51:=Tryz.underlying191
 a51:=Tryz.isAgg191
 z51:=Tryz.sizeOf191
 v51:=Tryz.zeroValue191
 t53:=Tryz.underlying91
 a53:=Tryz.isAgg91
 z53:=Tryz.sizeOf91
 v53:=Tryz.zeroValue91
 t75:=Tryz.underlying145
 a75:=Tryz.isAgg145
 z75:=Tryz.sizeOf145
 v75:=Tryz.zeroValue145
 t127:=Tryz.underlying197
 a127:=Tryz.isAgg197
 z127:=Tryz.sizeOf197
 v127:=Tryz.zeroValue197
 t143:=Tryz.underlying326
 a143:=Tryz.isAgg326
 z143:=Tryz.sizeOf326
 v143:=Tryz.zeroValue326
 t145:=Tryz.underlying328
 a145:=Tryz.isAgg328
 z145:=Tryz.sizeOf328
 v145:=Tryz.zeroValue328
 t167:=Tryz.underlying290
 a167:=Tryz.isAgg290
 z167:=Tryz.sizeOf290
 v167:=Tryz.zeroValue290
 t168:=Tryz.underlying293
 a168:=Tryz.isAgg293
 z168:=Tryz.sizeOf293
 v168:=Tryz.zeroValue293
 t171:=Tryz.underlying308
 a171:=Tryz.isAgg308
 z171:=Tryz.sizeOf308
 v171:=Tryz.zeroValue308
 t173:=Tryz.underlying310
 a173:=Tryz.isAgg310
 z173:=Tryz.sizeOf310
 v173:=Tryz.zeroValue310
 t210:=Tryz.underlying313
 a210:=Tryz.isAgg313
 z210:=Tryz.sizeOf313
 v210:=Tryz.zeroValue313
 t212:=Tryz.underlying323
 a212:=Tryz.isAgg323
 z212:=Tryz.sizeOf323
 v212:=Tryz.zeroValue323
 t213:=Tryz.underlying324
 a213:=Tryz.isAgg324
 z213:=Tryz.sizeOf324
 t232:=Tryz.underlying356
 a232:=Tryz.isAgg356
 z232:=Tryz.sizeOf356
 v232:=Tryz.zeroValue356
 t233:=Tryz.underlying382
 a233:=Tryz.isAgg382
 z233:=Tryz.sizeOf382
 v233:=Tryz.zeroValue382
 g15:=by kernel_rfl
 g16:=by kernel_rfl
 g17:=by kernel_rfl
 g18:=by kernel_rfl
 g19:=by kernel_rfl
 t80:=Tryz.underlying149
 a80:=Tryz.isAgg149
 z80:=Tryz.sizeOf149
 v80:=Tryz.zeroValue149
 i0:=by kernel_rfl
 i2:=by kernel_rfl
 i3:=by kernel_rfl
 i4:=by kernel_rfl
 i5:=by kernel_rfl
 i9:=by kernel_rfl
 i20:=by kernel_rfl
 i37:=by kernel_rfl
 i46:=by kernel_rfl
 i51:=by kernel_rfl
 i53:=by kernel_rfl
 i75:=by kernel_rfl
 i80:=by kernel_rfl
 i127:=by kernel_rfl
 i143:=by kernel_rfl
 i145:=by kernel_rfl
 i167:=by kernel_rfl
 i168:=by kernel_rfl
 i171:=by kernel_rfl
 i173:=by kernel_rfl
 i210:=by kernel_rfl
 i212:=by kernel_rfl
 i232:=by kernel_rfl
 i233:=by kernel_rfl
 m15:=by kernel_rfl
 m16:=by kernel_rfl
 m17:=by kernel_rfl
 m18:=by kernel_rfl
 m19:=by kernel_rfl
 c0:=by kernel_rfl
 c2:=by kernel_rfl
 c3:=by kernel_rfl
 c4:=by kernel_rfl
 c5:=by kernel_rfl
 c9:=by kernel_rfl
 c20:=by kernel_rfl
 c37:=by kernel_rfl
 c46:=by kernel_rfl
 c51:=by kernel_rfl
 c53:=by kernel_rfl
 c75:=by kernel_rfl
 c80:=by kernel_rfl
 c127:=by kernel_rfl
 c143:=by kernel_rfl
 c145:=by kernel_rfl
 c167:=by kernel_rfl
 c168:=by kernel_rfl
 c171:=by kernel_rfl
 c173:=by kernel_rfl
 c210:=by kernel_rfl
 c212:=by kernel_rfl
 c213:=by kernel_rfl
 c232:=by kernel_rfl
 c233:=by kernel_rfl}
open Go.RowKit in
theorem Tryz.strconv_toError_syntax (fn s:ByteArray) (base bits:Int) (ev:Value) (w:World) (hlim:s.size<=281474976710656) (hv:w.cell? ⟨5,0,none⟩=some ev) (hev:ev= .nilIface\/∃te pe,ev= .iface te pe):
 Calls Tryz.prog 192 #[.string fn,.string s,.int .i64 base,.int .i64 bits,.iface 290 (.int .i64 2)] w fun e w'=>∃N,e= .returned (.iface 293 (.pointer (some ⟨N,0,none⟩)))/\w.heap.size<=N/\w'.heap[N]? =some (.cells #[.string fn,.string s,ev] 313 (0,0))/\Below w.heap.size w w':=Any.strconv_toError_syntax Tryz.laysC245 fn s base bits ev w hlim hv hev
def Tryz.lays321_ren:Go.Shelf.Ren:=⟨fun|321=>234|n=>n,fun|5=>5|n=>n,fun|n=>n⟩
theorem Tryz.lays321:Go.Proofs.Lays.n321 Tryz.prog Tryz.lays321_ren:={
 mixed:=by kernel_rfl
 f321:=Tryz.func234.trans (congrArg some (by kernel_rfl))
 t5:=Tryz.underlying5
 a5:=Tryz.isAgg5
 z5:=Tryz.sizeOf5
 v5:=Tryz.zeroValue5}
open Go.RowKit in
theorem Tryz.internal_strconv_lower (c:Int) (w:World):
 Calls Tryz.prog 234 #[.int .u8 c] w fun e w'=>e= .returned (.int .u8 (bits .or .u8 c 32))/\w'=w:=Any.internal_strconv_lower Tryz.lays321 c w
open Go.RowKit in
theorem Tryz.strconv_toError_range (fn s:ByteArray) (base bits:Int) (ev:Value) (w:World) (hlim:s.size<=281474976710656) (hv:w.cell? ⟨6,0,none⟩=some ev) (hev:ev= .nilIface\/∃te pe,ev= .iface te pe):
 Calls Tryz.prog 192 #[.string fn,.string s,.int .i64 base,.int .i64 bits,.iface 290 (.int .i64 1)] w fun e w'=>∃N,e= .returned (.iface 293 (.pointer (some ⟨N,0,none⟩)))/\w.heap.size<=N/\w'.heap[N]? =some (.cells #[.string fn,.string s,ev] 313 (0,0))/\Below w.heap.size w w':=Any.strconv_toError_range Tryz.laysC245 fn s base bits ev w hlim hv hev
def Tryz.laysC174_ren:Go.Shelf.Ren:=⟨fun|174=>154|247=>191|245=>192|287=>216|279=>217|280=>218|281=>219|282=>220|321=>234|322=>235|316=>236|171=>238|205=>237|243=>250|246=>215|283=>230|284=>231|285=>232|286=>233|129=>130|317=>246|318=>247|319=>248|320=>249|337=>277|338=>278|n=>n,fun|9=>9|3=>3|2=>2|75=>145|85=>215|4=>4|167=>290|5=>5|53=>91|175=>291|46=>133|168=>293|37=>130|0=>0|210=>313|21=>21|127=>197|145=>328|143=>326|171=>308|173=>310|212=>323|51=>191|20=>20|213=>324|232=>356|233=>382|80=>149|n=>n,fun|15=>5|16=>6|17=>7|18=>14|19=>15|n=>n⟩
theorem Tryz.laysC174:Go.Proofs.LaysC.n174 Tryz.prog Tryz.laysC174_ren:={
 mixed:=by kernel_rfl
 f129:=Tryz.func130.trans (congrArg some (by kernel_rfl))
 f171:=Tryz.func238.trans (congrArg some (by kernel_rfl))
 f174:=Tryz.func154.trans (congrArg some (by kernel_rfl))
 f205:=Tryz.func237.trans (congrArg some (by kernel_rfl))
 f243:=Tryz.func250.trans (congrArg some (by kernel_rfl))
 f245:=Tryz.func192.trans (congrArg some (by kernel_rfl))
 f246:=Tryz.func215.trans (congrArg some (by kernel_rfl))
 f247:=Tryz.func191.trans (congrArg some (by kernel_rfl))
 f279:=Tryz.func217.trans (congrArg some (by kernel_rfl))
 f280:=Tryz.func218.trans (congrArg some (by kernel_rfl))
 f281:=Tryz.func219.trans (congrArg some (by kernel_rfl))
 f282:=Tryz.func220.trans (congrArg some (by kernel_rfl))
 f283:=Tryz.func230.trans (congrArg some (by kernel_rfl))
 f284:=Tryz.func231.trans (congrArg some (by kernel_rfl))
 f285:=Tryz.func232.trans (congrArg some (by kernel_rfl))
 f286:=Tryz.func233.trans (congrArg some (by kernel_rfl))
 f287:=Tryz.func216.trans (congrArg some (by kernel_rfl))
 f316:=Tryz.func236.trans (congrArg some (by kernel_rfl))
 f317:=Tryz.func246.trans (congrArg some (by kernel_rfl))
 f318:=Tryz.func247.trans (congrArg some (by kernel_rfl))
 f319:=Tryz.func248.trans (congrArg some (by kernel_rfl))
 f320:=Tryz.func249.trans (congrArg some (by kernel_rfl))
 f321:=Tryz.func234.trans (congrArg some (by kernel_rfl))
 f322:=Tryz.func235.trans (congrArg some (by kernel_rfl))
 f337:=Tryz.func277.trans (congrArg some (by kernel_rfl))
 f338:=Tryz.func278.trans (congrArg some (by kernel_rfl))
 t0:=Tryz.underlying0
 a0:=Tryz.isAgg0
 z0:=Tryz.sizeOf0
 v0:=Tryz.zeroValue0
 t2:=Tryz.underlying2
 a2:=Tryz.isAgg2
 z2:=Tryz.sizeOf2
 v2:=Tryz.zeroValue2
 t3:=Tryz.underlying3
 a3:=Tryz.isAgg3
 z3:=Tryz.sizeOf3
 v3:=Tryz.zeroValue3
 t4:=Tryz.underlying4
 a4:=Tryz.isAgg4
 z4:=Tryz.sizeOf4
 v4:=Tryz.zeroValue4
 t5:=Tryz.underlying5
 a5:=Tryz.isAgg5
 z5:=Tryz.sizeOf5
 v5:=Tryz.zeroValue5
 t9:=Tryz.underlying9
 a9:=Tryz.isAgg9
 z9:=Tryz.sizeOf9
 v9:=Tryz.zeroValue9
 t20:=Tryz.underlying20
 a20:=Tryz.isAgg20
 z20:=Tryz.sizeOf20
 v20:=Tryz.zeroValue20
 t21:=Tryz.underlying21
 a21:=Tryz.isAgg21
 z21:=Tryz.sizeOf21
 v21:=Tryz.zeroValue21
 t37:=Tryz.underlying130
 a37:=Tryz.isAgg130
 z37:=Tryz.sizeOf130
 v37:=Tryz.zeroValue130
 t46:=Tryz.underlying133
 a46:=Tryz.isAgg133
 z46:=Tryz.sizeOf133
 v46:=Tryz.zeroValue133
 t51:=Tryz.underlying191
 a51:=Tryz.isAgg191
 z51:=Tryz.sizeOf191
 v51:=Tryz.zeroValue191
 t53:=Tryz.underlying91
 a53:=Tryz.isAgg91
 z53:=Tryz.sizeOf91
 v53:=Tryz.zeroValue91
 t75:=Tryz.underlying145
 a75:=Tryz.isAgg145
 z75:=Tryz.sizeOf145
 v75:=Tryz.zeroValue145
 t85:=Tryz.underlying215
 a85:=Tryz.isAgg215
 z85:=Tryz.sizeOf215
 v85:=Tryz.zeroValue215
 t127:=Tryz.underlying197
 a127:=Tryz.isAgg197
 z127:=Tryz.sizeOf197
 v127:=Tryz.zeroValue197
 t143:=Tryz.underlying326
 a143:=Tryz.isAgg326
 z143:=Tryz.sizeOf326
 v143:=Tryz.zeroValue326
 t145:=Tryz.underlying328
 a145:=Tryz.isAgg328
 z145:=Tryz.sizeOf328
 v145:=Tryz.zeroValue328
 t167:=Tryz.underlying290
 a167:=Tryz.isAgg290
 z167:=Tryz.sizeOf290
 v167:=Tryz.zeroValue290
 t168:=Tryz.underlying293
 a168:=Tryz.isAgg293
 z168:=Tryz.sizeOf293
 v168:=Tryz.zeroValue293
 t171:=Tryz.underlying308
 a171:=Tryz.isAgg308
 z171:=Tryz.sizeOf308
 v171:=Tryz.zeroValue308
 t173:=Tryz.underlying310
 a173:=Tryz.isAgg310
 z173:=Tryz.sizeOf310
 v173:=Tryz.zeroValue310
 t175:=Tryz.underlying291
 a175:=Tryz.isAgg291
 z175:=Tryz.sizeOf291
 v175:=Tryz.zeroValue291
 t210:=Tryz.underlying313
 a210:=Tryz.isAgg313
 z210:=Tryz.sizeOf313
 v210:=Tryz.zeroValue313
 t212:=Tryz.underlying323
 a212:=Tryz.isAgg323
 z212:=Tryz.sizeOf323
 v212:=Tryz.zeroValue323
 t213:=Tryz.underlying324
 a213:=Tryz.isAgg324
 z213:=Tryz.sizeOf324
 t232:=Tryz.underlying356
 a232:=Tryz.isAgg356
 z232:=Tryz.sizeOf356
 v232:=Tryz.zeroValue356
 t233:=Tryz.underlying382
 a233:=Tryz.isAgg382
 z233:=Tryz.sizeOf382
 v233:=Tryz.zeroValue382
 g15:=by kernel_rfl
 g16:=by kernel_rfl
 g17:=by kernel_rfl
 g18:=by kernel_rfl
 g19:=by kernel_rfl
 t80:=Tryz.underlying149
 a80:=Tryz.isAgg149
 z80:=Tryz.sizeOf149
 v80:=Tryz.zeroValue149
 i0:=by kernel_rfl
 i2:=by kernel_rfl
 i3:=by kernel_rfl
 i4:=by kernel_rfl
 i5:=by kernel_rfl
 i9:=by kernel_rfl
 i20:=by kernel_rfl
 i21:=by kernel_rfl
 i37:=by kernel_rfl
 i46:=by kernel_rfl
 i51:=by kernel_rfl
 i53:=by kernel_rfl
 i75:=by kernel_rfl
 i80:=by kernel_rfl
 i85:=by kernel_rfl
 i127:=by kernel_rfl
 i143:=by kernel_rfl
 i145:=by kernel_rfl
 i167:=by kernel_rfl
 i168:=by kernel_rfl
 i171:=by kernel_rfl
 i173:=by kernel_rfl
 i175:=by kernel_rfl
 i210:=by kernel_rfl
 i212:=by kernel_rfl
 i232:=by kernel_rfl
 i233:=by kernel_rfl
 m15:=by kernel_rfl
 m16:=by kernel_rfl
 m17:=by kernel_rfl
 m18:=by kernel_rfl
 m19:=by kernel_rfl
 c0:=by kernel_rfl
 c2:=by kernel_rfl
 c3:=by kernel_rfl
 c4:=by kernel_rfl
 c5:=by kernel_rfl
 c9:=by kernel_rfl
 c20:=by kernel_rfl
 c21:=by kernel_rfl
 c37:=by kernel_rfl
 c46:=by kernel_rfl
 c51:=by kernel_rfl
 c53:=by kernel_rfl
 c75:=by kernel_rfl
 c80:=by kernel_rfl
 c85:=by kernel_rfl
 c127:=by kernel_rfl
 c143:=by kernel_rfl
 c145:=by kernel_rfl
 c167:=by kernel_rfl
 c168:=by kernel_rfl
 c171:=by kernel_rfl
 c173:=by kernel_rfl
 c175:=by kernel_rfl
 c210:=by kernel_rfl
 c212:=by kernel_rfl
 c213:=by kernel_rfl
 c232:=by kernel_rfl
 c233:=by kernel_rfl}
open Go.RowKit in
theorem Tryz.strconv_ParseInt_10_at64_ok (s:ByteArray) (hmax:s.size<=9223372036854775806) (v:Int) (h:Lib.parseIntB 64 s.data.toList= .ok v) (w:World):
 Calls Tryz.prog 154 #[.string s,.int .i64 10,.int .i64 64] w fun e w'=>e= .returned (.tuple #[.int .i64 v,.nilIface])/\(w'=w\/∃t,w'=Lib.bytesWorld w 5 t):=Any.strconv_ParseInt_10_at64_ok Tryz.laysC174 s hmax v h w
open Go.RowKit in
theorem Tryz.strconv_ParseInt_10_at64_syntax_var (s:ByteArray) (hlim:s.size<=281474976710656) (h:Lib.parseIntB 64 s.data.toList=Lib.NumEnd.syntax) (tp:TypeId) (p:Value) (w:World) (hvar:w.var? Tryz.prog "strconv.ErrSyntax"=some #[.iface tp p]):
 Calls Tryz.prog 154 #[.string s,.int .i64 10,.int .i64 64] w fun e w'=>∃N,e= .returned (.tuple #[.int .i64 (0),.iface 293 (.pointer (some ⟨N,0,none⟩))])/\w.heap.size<=N/\w'.heap[N]? =some (.cells #[.string ⟨#[80,97,114,115,101,73,110,116]⟩,.string s,.iface tp p] 313 (0,0))/\Below w.heap.size w w':=Any.strconv_ParseInt_10_at64_syntax_var Tryz.laysC174 s hlim h tp p w hvar
open Go.RowKit in
theorem Tryz.strconv_ParseInt_10_at64_range_var (s:ByteArray) (hlim:s.size<=281474976710656) (h:Lib.parseIntB 64 s.data.toList= .range) (tp:TypeId) (p:Value) (w:World) (hvar:w.var? Tryz.prog "strconv.ErrRange"=some #[.iface tp p]):
 Calls Tryz.prog 154 #[.string s,.int .i64 10,.int .i64 64] w fun e w'=>∃N,e= .returned (.tuple #[.int .i64 (Lib.intSat 64 s.data.toList),.iface 293 (.pointer (some ⟨N,0,none⟩))])/\w.heap.size<=N/\w'.heap[N]? =some (.cells #[.string ⟨#[80,97,114,115,101,73,110,116]⟩,.string s,.iface tp p] 313 (0,0))/\Below w.heap.size w w':=Any.strconv_ParseInt_10_at64_range_var Tryz.laysC174 s hlim h tp p w hvar
def Tryz.lays264_ren:Go.Shelf.Ren:=⟨fun|264=>303|n=>n,fun|53=>91|46=>133|n=>n,fun|n=>n⟩
theorem Tryz.lays264:Go.Proofs.Lays.n264 Tryz.prog Tryz.lays264_ren:={
 mixed:=by kernel_rfl
 f264:=Tryz.func303.trans (congrArg some (by kernel_rfl))
 t46:=Tryz.underlying133
 a46:=Tryz.isAgg133
 z46:=Tryz.sizeOf133
 v46:=Tryz.zeroValue133
 t53:=Tryz.underlying91
 a53:=Tryz.isAgg91
 z53:=Tryz.sizeOf91
 v53:=Tryz.zeroValue91}
open Go.RowKit Go.Lib in
theorem Tryz.bits_Mul64 (x y:Nat) (hx:x<18446744073709551616) (hy:y<18446744073709551616) (w:World):
 Calls Tryz.prog 303 #[.int .u64 x,.int .u64 y] w fun e w'=>e= .returned (.tuple #[.int .u64 ((x*y/18446744073709551616:Nat):Int),.int .u64 ((x*y%18446744073709551616:Nat):Int)])/\w'=w:=Any.bits_Mul64 Tryz.lays264 x y hx hy w
end Go.Proofs
