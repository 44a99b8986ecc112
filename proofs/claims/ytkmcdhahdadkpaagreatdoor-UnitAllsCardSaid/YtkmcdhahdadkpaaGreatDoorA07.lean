/- The library's contracts at this program (written by the kit's own tool). -/
import Derived.Shelf.Strings.Builder1
import Derived.Shelf.Strings.Builder2
import Derived.Shelf.Strings.OnBuilder
import Derived.Shelf.Small.Utf8
import Derived.Shelf.Small.Bits
import Derived.Shelf.Small.Strs
import Derived.Shelf.Small.Wraps
import Derived.Shelf.Strings.BuilderF
import Derived.Shelf.Strings.BuilderK
import Derived.Shelf.Strings.BuilderRune
import Derived.Shelf.Strconv.Itoa0
import Derived.Shelf.Strconv.Itoa1
import Derived.Shelf.LaysM
import Derived.Shelf.Strconv.Itoa2
import Derived.Shelf.Strconv.Itoa3
import Derived.Shelf.Strconv.Itoa4
import Derived.Shelf.Strings.Search1
import Derived.Shelf.Strings.Search2
import Derived.Shelf.Strings.Search3
import Derived.Shelf.Strings.Count
import Derived.Shelf.Strings.Shaped
import Derived.Shelf.GgClosure.StringsIndexFunc
import Derived.Ground.GgwProg
import Derived.Shelf.GgClosure.StringsIndexFuncTop
import Derived.Shelf.Strings.Split
import Derived.Shelf.Strings.Replace
import Derived.Shelf.Strings.SplitShaped
import Derived.Shelf.Unicode.Latin
import Derived.Shelf.Unicode.DecodeSlow
import Derived.Shelf.Unicode.DecodeAny
import Derived.Shelf.Unicode.CaseLookup
import Derived.Shelf.Unicode.CaseConvert
import Derived.Shelf.Unicode.CaseTo
import Derived.Shelf.Unicode.CaseLaid
import Derived.Shelf.Strings.FuncGrows
import Derived.Test.YtkmcdhahdadkpaaGreatDoorProg
namespace Go.Proofs
open Go.Shelf
def Tryz.lays158_ren:Go.Shelf.Ren:=⟨fun | 158=>232 | 165=>266 | 166=>267 | 167=>268 | 169=>269 | 230=>270 | 203=>271 | 240=>296 | 241=>297 | 197=>298 | 118=>299 | 168=>300 | 270=>301 | 262=>302 | 276=>322 | 277=>323 | 260=>324 | 242=>325 | 313=>326 | 278=>336 | 274=>337 | 275=>338 | n=>n,fun | 9=>9 | 4=>4 | 3=>3 | 5=>5 | 72=>295 | 0=>0 | 76=>299 | 75=>298 | 107=>303 | 70=>293 | 20=>20 | 37=>258 | 127=>328 | 21=>21 | 105=>329 | 164=>339 | 162=>345 | 203=>343 | 119=>352 | 46=>176 | 139=>355 | 138=>354 | 51=>222 | 160=>356 | 208=>367 | 206=>365 | 80=>155 | n=>n,fun | 13=>2 | 3=>3 | 4=>4 | n=>n⟩
theorem Tryz.lays158:Go.Proofs.Lays.n158 Tryz.prog Tryz.lays158_ren:={
 mixed:=by kernel_rfl
 f118:=Tryz.func299.trans (congrArg some (by kernel_rfl))
 f158:=Tryz.func232.trans (congrArg some (by kernel_rfl))
 f165:=Tryz.func266.trans (congrArg some (by kernel_rfl))
 f166:=Tryz.func267.trans (congrArg some (by kernel_rfl))
 f167:=Tryz.func268.trans (congrArg some (by kernel_rfl))
 f168:=Tryz.func300.trans (congrArg some (by kernel_rfl))
 f169:=Tryz.func269.trans (congrArg some (by kernel_rfl))
 f197:=Tryz.func298.trans (congrArg some (by kernel_rfl))
 f203:=Tryz.func271.trans (congrArg some (by kernel_rfl))
 f230:=Tryz.func270.trans (congrArg some (by kernel_rfl))
 f240:=Tryz.func296.trans (congrArg some (by kernel_rfl))
 f241:=Tryz.func297.trans (congrArg some (by kernel_rfl))
 f242:=Tryz.func325.trans (congrArg some (by kernel_rfl))
 f260:=Tryz.func324.trans (congrArg some (by kernel_rfl))
 f262:=Tryz.func302.trans (congrArg some (by kernel_rfl))
 f270:=Tryz.func301.trans (congrArg some (by kernel_rfl))
 f274:=Tryz.func337.trans (congrArg some (by kernel_rfl))
 f275:=Tryz.func338.trans (congrArg some (by kernel_rfl))
 f276:=Tryz.func322.trans (congrArg some (by kernel_rfl))
 f277:=Tryz.func323.trans (congrArg some (by kernel_rfl))
 f278:=Tryz.func336.trans (congrArg some (by kernel_rfl))
 f313:=Tryz.func326.trans (congrArg some (by kernel_rfl))
 t0:=Tryz.underlying0
 a0:=Tryz.isAgg0
 z0:=Tryz.sizeOf0
 v0:=Tryz.zeroValue0
 t3:=Tryz.underlying3
 a3:=Tryz.isAgg3
 z3:=Tryz.sizeOf3
 v3:=Tryz.zeroValue3
 t4:=Tryz.underlying4
 a4:=Tryz.isAgg4
 z4:=Tryz.sizeOf4
 v4:=Tryz.zeroValue4
 t5:=Tryz.underlying5
 a5:=Tryz.isAgg5
 z5:=Tryz.sizeOf5
 v5:=Tryz.zeroValue5
 t9:=Tryz.underlying9
 a9:=Tryz.isAgg9
 z9:=Tryz.sizeOf9
 v9:=Tryz.zeroValue9
 t20:=Tryz.underlying20
 a20:=Tryz.isAgg20
 z20:=Tryz.sizeOf20
 v20:=Tryz.zeroValue20
 t21:=Tryz.underlying21
 a21:=Tryz.isAgg21
 z21:=Tryz.sizeOf21
 v21:=Tryz.zeroValue21
 t37:=Tryz.underlying258
 a37:=Tryz.isAgg258
 z37:=Tryz.sizeOf258
 v37:=Tryz.zeroValue258
 t46:=Tryz.underlying176
 a46:=Tryz.isAgg176
 z46:=Tryz.sizeOf176
 v46:=Tryz.zeroValue176
 t51:=Tryz.underlying222
 a51:=Tryz.isAgg222
 z51:=Tryz.sizeOf222
 v51:=Tryz.zeroValue222
 t70:=Tryz.underlying293
 a70:=Tryz.isAgg293
 z70:=Tryz.sizeOf293
 v70:=Tryz.zeroValue293
 t72:=Tryz.underlying295
 a72:=Tryz.isAgg295
 z72:=Tryz.sizeOf295
 v72:=Tryz.zeroValue295
 t75:=Tryz.underlying298
 a75:=Tryz.isAgg298
 z75:=Tryz.sizeOf298
 v75:=Tryz.zeroValue298
 t76:=Tryz.underlying299
 a76:=Tryz.isAgg299
 z76:=Tryz.sizeOf299
 v76:=Tryz.zeroValue299
 t105:=Tryz.underlying329
 a105:=Tryz.isAgg329
 z105:=Tryz.sizeOf329
 v105:=Tryz.zeroValue329
 t107:=Tryz.underlying303
 a107:=Tryz.isAgg303
 z107:=Tryz.sizeOf303
 v107:=Tryz.zeroValue303
 t119:=Tryz.underlying352
 a119:=Tryz.isAgg352
 z119:=Tryz.sizeOf352
 t127:=Tryz.underlying328
 a127:=Tryz.isAgg328
 z127:=Tryz.sizeOf328
 v127:=Tryz.zeroValue328
 t138:=Tryz.underlying354
 a138:=Tryz.isAgg354
 z138:=Tryz.sizeOf354
 v138:=Tryz.zeroValue354
 t139:=Tryz.underlying355
 a139:=Tryz.isAgg355
 z139:=Tryz.sizeOf355
 v139:=Tryz.zeroValue355
 t160:=Tryz.underlying356
 a160:=Tryz.isAgg356
 z160:=Tryz.sizeOf356
 v160:=Tryz.zeroValue356
 t162:=Tryz.underlying345
 a162:=Tryz.isAgg345
 z162:=Tryz.sizeOf345
 v162:=Tryz.zeroValue345
 t164:=Tryz.underlying339
 a164:=Tryz.isAgg339
 z164:=Tryz.sizeOf339
 v164:=Tryz.zeroValue339
 t203:=Tryz.underlying343
 a203:=Tryz.isAgg343
 z203:=Tryz.sizeOf343
 v203:=Tryz.zeroValue343
 t206:=Tryz.underlying365
 a206:=Tryz.isAgg365
 z206:=Tryz.sizeOf365
 v206:=Tryz.zeroValue365
 t208:=Tryz.underlying367
 a208:=Tryz.isAgg367
 z208:=Tryz.sizeOf367
 v208:=Tryz.zeroValue367
 g3:=by kernel_rfl
 g4:=by kernel_rfl
 g13:=by kernel_rfl }
theorem Tryz.Builder_Extra_158:Builder.Extra Tryz.prog Tryz.lays158_ren:={
 sizeBuilder:=by kernel_rfl
 liesBuilder:=by kernel_rfl
 t5:=Tryz.underlying5
 a5:=Tryz.isAgg5
 z5:=Tryz.sizeOf5
 v5:=Tryz.zeroValue5
 infoByte:=by kernel_rfl
 cellsByte:=by kernel_rfl
 sizeByte:=by kernel_rfl
 neB5:=by decide }
open Go.RowKit in
theorem Tryz.strings_ToUpper_ascii (s:ByteArray) (w:World) (hs:s.size≤140737488355328) (hascii:∀ (j:Nat) (b:UInt8),s.data.toList[j]?=some b→b.toNat < 128):
 Calls Tryz.prog 232 #[.string s] w fun e w'=>e=.returned (.string ⟨(Lib.toUpperA s.data.toList).toArray⟩)∧Below w.heap.size w w':=Any.strings_ToUpper_ascii Tryz.lays158 Tryz.Builder_Extra_158 s w hs hascii
def Tryz.lays156_ren:Go.Shelf.Ren:=⟨fun | 156=>274 | 165=>266 | 166=>267 | 169=>269 | 240=>296 | 241=>297 | 276=>322 | 277=>323 | n=>n,fun | 31=>23 | 9=>9 | 3=>3 | 4=>4 | 0=>0 | 20=>20 | 72=>295 | 76=>299 | 70=>293 | 37=>258 | 75=>298 | 127=>328 | 164=>339 | 5=>5 | 80=>155 | n=>n,fun | n=>n⟩
theorem Tryz.lays156:Go.Proofs.Lays.n156 Tryz.prog Tryz.lays156_ren:={
 mixed:=by kernel_rfl
 f156:=Tryz.func274.trans (congrArg some (by kernel_rfl))
 f165:=Tryz.func266.trans (congrArg some (by kernel_rfl))
 f166:=Tryz.func267.trans (congrArg some (by kernel_rfl))
 f169:=Tryz.func269.trans (congrArg some (by kernel_rfl))
 f240:=Tryz.func296.trans (congrArg some (by kernel_rfl))
 f241:=Tryz.func297.trans (congrArg some (by kernel_rfl))
 f276:=Tryz.func322.trans (congrArg some (by kernel_rfl))
 f277:=Tryz.func323.trans (congrArg some (by kernel_rfl))
 t0:=Tryz.underlying0
 a0:=Tryz.isAgg0
 z0:=Tryz.sizeOf0
 v0:=Tryz.zeroValue0
 t3:=Tryz.underlying3
 a3:=Tryz.isAgg3
 z3:=Tryz.sizeOf3
 v3:=Tryz.zeroValue3
 t4:=Tryz.underlying4
 a4:=Tryz.isAgg4
 z4:=Tryz.sizeOf4
 v4:=Tryz.zeroValue4
 t9:=Tryz.underlying9
 a9:=Tryz.isAgg9
 z9:=Tryz.sizeOf9
 v9:=Tryz.zeroValue9
 t20:=Tryz.underlying20
 a20:=Tryz.isAgg20
 z20:=Tryz.sizeOf20
 v20:=Tryz.zeroValue20
 t31:=Tryz.underlying23
 a31:=Tryz.isAgg23
 z31:=Tryz.sizeOf23
 v31:=Tryz.zeroValue23
 t37:=Tryz.underlying258
 a37:=Tryz.isAgg258
 z37:=Tryz.sizeOf258
 v37:=Tryz.zeroValue258
 t70:=Tryz.underlying293
 a70:=Tryz.isAgg293
 z70:=Tryz.sizeOf293
 v70:=Tryz.zeroValue293
 t72:=Tryz.underlying295
 a72:=Tryz.isAgg295
 z72:=Tryz.sizeOf295
 v72:=Tryz.zeroValue295
 t75:=Tryz.underlying298
 a75:=Tryz.isAgg298
 z75:=Tryz.sizeOf298
 v75:=Tryz.zeroValue298
 t76:=Tryz.underlying299
 a76:=Tryz.isAgg299
 z76:=Tryz.sizeOf299
 v76:=Tryz.zeroValue299
 t127:=Tryz.underlying328
 a127:=Tryz.isAgg328
 z127:=Tryz.sizeOf328
 v127:=Tryz.zeroValue328
 t164:=Tryz.underlying339
 a164:=Tryz.isAgg339
 z164:=Tryz.sizeOf339
 v164:=Tryz.zeroValue339 }
theorem Tryz.Builder_Extra_156:Builder.Extra Tryz.prog Tryz.lays156_ren:={
 sizeBuilder:=by kernel_rfl
 liesBuilder:=by kernel_rfl
 t5:=Tryz.underlying5
 a5:=Tryz.isAgg5
 z5:=Tryz.sizeOf5
 v5:=Tryz.zeroValue5
 infoByte:=by kernel_rfl
 cellsByte:=by kernel_rfl
 sizeByte:=by kernel_rfl
 neB5:=by decide }
open Go.RowKit in
theorem Tryz.strings_Join_none (a:Option Addr) (c:Nat) (sep:ByteArray) (w:World):
 Calls Tryz.prog 274 #[.slice a 0 c,.string sep] w fun e w'=>e=.returned (.string ⟨#[]⟩)∧w'=w:=Any.strings_Join_none Tryz.lays156 Tryz.Builder_Extra_156 a c sep w
open Go.RowKit in
theorem Tryz.strings_Join (bk o c:Nat) (xs:List ByteArray) (sep:ByteArray) (w:World) (hcells:∀ (j:Nat) x,xs[j]?=some x→w.cell? ⟨bk,o+j,none⟩=some (.string x)) (hbk:bk < w.heap.size) (hN:xs.length≤140737488355328) (hcap:xs.length≤c) (hlen:(Lib.join (xs.map (·.data.toList)) sep.data.toList).length≤140737488355328):
 Calls Tryz.prog 274 #[.slice (some ⟨bk,o,none⟩) xs.length c,.string sep] w fun e w'=>e=.returned (.string ⟨(Lib.join (xs.map (·.data.toList)) sep.data.toList).toArray⟩)∧Below w.heap.size w w':=Any.strings_Join Tryz.lays156 Tryz.Builder_Extra_156 bk o c xs sep w hcells hbk hN hcap hlen
def Tryz.laysM173_ren:Go.Shelf.Ren:=⟨fun | 173=>275 | 246=>303 | 283=>327 | 284=>328 | 285=>329 | 286=>330 | 129=>164 | 317=>339 | 318=>340 | 319=>341 | 320=>342 | 337=>349 | 338=>350 | n=>n,fun | 2=>2 | 3=>3 | 9=>9 | 4=>4 | 171=>347 | 0=>0 | 53=>224 | 37=>258 | 5=>5 | 173=>349 | 212=>361 | 51=>222 | 20=>20 | 213=>362 | 46=>176 | 232=>370 | 233=>371 | n=>n,fun | 17=>5 | 18=>6 | 19=>7 | n=>n⟩
theorem Tryz.laysM173:Go.Proofs.LaysM.n173 Tryz.prog Tryz.laysM173_ren:={
 mixed:=by kernel_rfl
 f129:=Tryz.func164.trans (congrArg some (by kernel_rfl))
 f173:=Tryz.func275.trans (congrArg some (by kernel_rfl))
 f246:=Tryz.func303.trans (congrArg some (by kernel_rfl))
 f283:=Tryz.func327.trans (congrArg some (by kernel_rfl))
 f284:=Tryz.func328.trans (congrArg some (by kernel_rfl))
 f285:=Tryz.func329.trans (congrArg some (by kernel_rfl))
 f286:=Tryz.func330.trans (congrArg some (by kernel_rfl))
 f317:=Tryz.func339.trans (congrArg some (by kernel_rfl))
 f318:=Tryz.func340.trans (congrArg some (by kernel_rfl))
 f319:=Tryz.func341.trans (congrArg some (by kernel_rfl))
 f320:=Tryz.func342.trans (congrArg some (by kernel_rfl))
 f337:=Tryz.func349.trans (congrArg some (by kernel_rfl))
 f338:=Tryz.func350.trans (congrArg some (by kernel_rfl))
 t0:=Tryz.underlying0
 a0:=Tryz.isAgg0
 z0:=Tryz.sizeOf0
 v0:=Tryz.zeroValue0
 t2:=Tryz.underlying2
 a2:=Tryz.isAgg2
 z2:=Tryz.sizeOf2
 v2:=Tryz.zeroValue2
 t3:=Tryz.underlying3
 a3:=Tryz.isAgg3
 z3:=Tryz.sizeOf3
 v3:=Tryz.zeroValue3
 t4:=Tryz.underlying4
 a4:=Tryz.isAgg4
 z4:=Tryz.sizeOf4
 v4:=Tryz.zeroValue4
 t5:=Tryz.underlying5
 a5:=Tryz.isAgg5
 z5:=Tryz.sizeOf5
 v5:=Tryz.zeroValue5
 t9:=Tryz.underlying9
 a9:=Tryz.isAgg9
 z9:=Tryz.sizeOf9
 v9:=Tryz.zeroValue9
 t20:=Tryz.underlying20
 a20:=Tryz.isAgg20
 z20:=Tryz.sizeOf20
 v20:=Tryz.zeroValue20
 t37:=Tryz.underlying258
 a37:=Tryz.isAgg258
 z37:=Tryz.sizeOf258
 v37:=Tryz.zeroValue258
 t46:=Tryz.underlying176
 a46:=Tryz.isAgg176
 z46:=Tryz.sizeOf176
 v46:=Tryz.zeroValue176
 t51:=Tryz.underlying222
 a51:=Tryz.isAgg222
 z51:=Tryz.sizeOf222
 v51:=Tryz.zeroValue222
 t53:=Tryz.underlying224
 a53:=Tryz.isAgg224
 z53:=Tryz.sizeOf224
 v53:=Tryz.zeroValue224
 t171:=Tryz.underlying347
 a171:=Tryz.isAgg347
 z171:=Tryz.sizeOf347
 v171:=Tryz.zeroValue347
 t173:=Tryz.underlying349
 a173:=Tryz.isAgg349
 z173:=Tryz.sizeOf349
 v173:=Tryz.zeroValue349
 t212:=Tryz.underlying361
 a212:=Tryz.isAgg361
 z212:=Tryz.sizeOf361
 v212:=Tryz.zeroValue361
 t213:=Tryz.underlying362
 a213:=Tryz.isAgg362
 z213:=Tryz.sizeOf362
 t232:=Tryz.underlying370
 a232:=Tryz.isAgg370
 z232:=Tryz.sizeOf370
 v232:=Tryz.zeroValue370
 t233:=Tryz.underlying371
 a233:=Tryz.isAgg371
 z233:=Tryz.sizeOf371
 v233:=Tryz.zeroValue371
 g17:=by kernel_rfl
 g18:=by kernel_rfl
 g19:=by kernel_rfl
 i0:=by kernel_rfl
 i2:=by kernel_rfl
 i3:=by kernel_rfl
 i4:=by kernel_rfl
 i5:=by kernel_rfl
 i9:=by kernel_rfl
 i20:=by kernel_rfl
 i37:=by kernel_rfl
 i46:=by kernel_rfl
 i51:=by kernel_rfl
 i53:=by kernel_rfl
 i171:=by kernel_rfl
 i173:=by kernel_rfl
 i212:=by kernel_rfl
 i232:=by kernel_rfl
 i233:=by kernel_rfl
 m17:=by kernel_rfl
 m18:=by kernel_rfl
 m19:=by kernel_rfl }
open Go.RowKit Go.Sort Go.Lib in
theorem Tryz.strconv_FormatInt_10 (n:Int) (h0:-9223372036854775808≤n) (h1:n≤9223372036854775807) (w:World) (htab:Lib.TabIs Tryz.prog w "internal/strconv.uint64pow10" .u64 Lib.pow10Tab):
 Calls Tryz.prog 275 #[.int .i64 n,.int .i64 10] w fun e w'=>e=.returned (.string ⟨(Lib.itoa n).toArray⟩)∧∃ k os,w'=grow (w.drewN k) os:=Any.strconv_FormatInt_10 Tryz.laysM173 n h0 h1 w htab
def Tryz.lays144_ren:Go.Shelf.Ren:=⟨fun | 144=>282 | 143=>309 | 219=>332 | 217=>345 | 225=>346 | 224=>347 | 267=>348 | 266=>351 | 314=>352 | n=>n,fun | 9=>9 | 4=>4 | 3=>3 | 5=>5 | 46=>176 | 146=>368 | 51=>222 | n=>n,fun | 1=>0 | n=>n⟩
theorem Tryz.lays144:Go.Proofs.Lays.n144 Tryz.prog Tryz.lays144_ren:={
 mixed:=by kernel_rfl
 f143:=Tryz.func309.trans (congrArg some (by kernel_rfl))
 f144:=Tryz.func282.trans (congrArg some (by kernel_rfl))
 f217:=Tryz.func345.trans (congrArg some (by kernel_rfl))
 f219:=Tryz.func332.trans (congrArg some (by kernel_rfl))
 f224:=Tryz.func347.trans (congrArg some (by kernel_rfl))
 f225:=Tryz.func346.trans (congrArg some (by kernel_rfl))
 f266:=Tryz.func351.trans (congrArg some (by kernel_rfl))
 f267:=Tryz.func348.trans (congrArg some (by kernel_rfl))
 f314:=Tryz.func352.trans (congrArg some (by kernel_rfl))
 t3:=Tryz.underlying3
 a3:=Tryz.isAgg3
 z3:=Tryz.sizeOf3
 v3:=Tryz.zeroValue3
 t4:=Tryz.underlying4
 a4:=Tryz.isAgg4
 z4:=Tryz.sizeOf4
 v4:=Tryz.zeroValue4
 t5:=Tryz.underlying5
 a5:=Tryz.isAgg5
 z5:=Tryz.sizeOf5
 v5:=Tryz.zeroValue5
 t9:=Tryz.underlying9
 a9:=Tryz.isAgg9
 z9:=Tryz.sizeOf9
 v9:=Tryz.zeroValue9
 t46:=Tryz.underlying176
 a46:=Tryz.isAgg176
 z46:=Tryz.sizeOf176
 v46:=Tryz.zeroValue176
 t51:=Tryz.underlying222
 a51:=Tryz.isAgg222
 z51:=Tryz.sizeOf222
 v51:=Tryz.zeroValue222
 t146:=Tryz.underlying368
 a146:=Tryz.isAgg368
 z146:=Tryz.sizeOf368
 v146:=Tryz.zeroValue368
 g1:=by kernel_rfl }
open Go.RowKit Go.Lib in
theorem Tryz.strings_Contains_one (s:ByteArray) (c:UInt8) (w:World):
 Calls Tryz.prog 282 #[.string s,.string ⟨#[c]⟩] w fun e w'=>e=.returned (.bool (decide (0≤Lib.indexByte s.data.toList c)))∧w'=w:=Any.strings_Contains_one Tryz.lays144 s c w
def Tryz.laysGw15_ren:Go.Shelf.Ren:=⟨fun | 15=>64 | 20=>112 | n=>n,fun | 9=>9 | 23=>124 | 3=>3 | 4=>4 | 0=>0 | 21=>21 | n=>n,fun | n=>n⟩
theorem Tryz.laysGw15:Go.Proofs.LaysGw.n15 Tryz.prog Tryz.laysGw15_ren:={
 mixed:=by kernel_rfl
 f15:=Tryz.func64.trans (congrArg some (by kernel_rfl))
 f20:=Tryz.func112.trans (congrArg some (by kernel_rfl))
 t0:=Tryz.underlying0
 a0:=Tryz.isAgg0
 z0:=Tryz.sizeOf0
 v0:=Tryz.zeroValue0
 i0:=by kernel_rfl
 t3:=Tryz.underlying3
 a3:=Tryz.isAgg3
 z3:=Tryz.sizeOf3
 v3:=Tryz.zeroValue3
 i3:=by kernel_rfl
 t4:=Tryz.underlying4
 a4:=Tryz.isAgg4
 z4:=Tryz.sizeOf4
 v4:=Tryz.zeroValue4
 i4:=by kernel_rfl
 t9:=Tryz.underlying9
 a9:=Tryz.isAgg9
 z9:=Tryz.sizeOf9
 v9:=Tryz.zeroValue9
 i9:=by kernel_rfl
 t21:=Tryz.underlying21
 a21:=Tryz.isAgg21
 z21:=Tryz.sizeOf21
 v21:=Tryz.zeroValue21
 i21:=by kernel_rfl
 t23:=Tryz.underlying124
 a23:=Tryz.isAgg124
 z23:=Tryz.sizeOf124
 v23:=Tryz.zeroValue124
 i23:=by kernel_rfl }
def Tryz.lays155_ren:Go.Shelf.Ren:=⟨fun | 155=>276 | 154=>304 | 138=>331 | 165=>266 | 143=>309 | 166=>267 | 197=>298 | 169=>269 | 195=>343 | 218=>344 | 240=>296 | 241=>297 | 219=>332 | 260=>324 | 276=>322 | 277=>323 | 217=>345 | 225=>346 | 224=>347 | 267=>348 | 266=>351 | 314=>352 | n=>n,fun | 9=>9 | 3=>3 | 4=>4 | 72=>295 | 0=>0 | 76=>299 | 105=>329 | 21=>21 | 5=>5 | 70=>293 | 20=>20 | 37=>258 | 75=>298 | 127=>328 | 164=>339 | 46=>176 | 119=>352 | 139=>355 | 138=>354 | 146=>368 | 51=>222 | 80=>155 | n=>n,fun | 1=>0 | 3=>3 | 4=>4 | n=>n⟩
theorem Tryz.lays155:Go.Proofs.Lays.n155 Tryz.prog Tryz.lays155_ren:={
 mixed:=by kernel_rfl
 f138:=Tryz.func331.trans (congrArg some (by kernel_rfl))
 f143:=Tryz.func309.trans (congrArg some (by kernel_rfl))
 f154:=Tryz.func304.trans (congrArg some (by kernel_rfl))
 f155:=Tryz.func276.trans (congrArg some (by kernel_rfl))
 f165:=Tryz.func266.trans (congrArg some (by kernel_rfl))
 f166:=Tryz.func267.trans (congrArg some (by kernel_rfl))
 f169:=Tryz.func269.trans (congrArg some (by kernel_rfl))
 f195:=Tryz.func343.trans (congrArg some (by kernel_rfl))
 f197:=Tryz.func298.trans (congrArg some (by kernel_rfl))
 f217:=Tryz.func345.trans (congrArg some (by kernel_rfl))
 f218:=Tryz.func344.trans (congrArg some (by kernel_rfl))
 f219:=Tryz.func332.trans (congrArg some (by kernel_rfl))
 f224:=Tryz.func347.trans (congrArg some (by kernel_rfl))
 f225:=Tryz.func346.trans (congrArg some (by kernel_rfl))
 f240:=Tryz.func296.trans (congrArg some (by kernel_rfl))
 f241:=Tryz.func297.trans (congrArg some (by kernel_rfl))
 f260:=Tryz.func324.trans (congrArg some (by kernel_rfl))
 f266:=Tryz.func351.trans (congrArg some (by kernel_rfl))
 f267:=Tryz.func348.trans (congrArg some (by kernel_rfl))
 f276:=Tryz.func322.trans (congrArg some (by kernel_rfl))
 f277:=Tryz.func323.trans (congrArg some (by kernel_rfl))
 f314:=Tryz.func352.trans (congrArg some (by kernel_rfl))
 t0:=Tryz.underlying0
 a0:=Tryz.isAgg0
 z0:=Tryz.sizeOf0
 v0:=Tryz.zeroValue0
 t3:=Tryz.underlying3
 a3:=Tryz.isAgg3
 z3:=Tryz.sizeOf3
 v3:=Tryz.zeroValue3
 t4:=Tryz.underlying4
 a4:=Tryz.isAgg4
 z4:=Tryz.sizeOf4
 v4:=Tryz.zeroValue4
 t5:=Tryz.underlying5
 a5:=Tryz.isAgg5
 z5:=Tryz.sizeOf5
 v5:=Tryz.zeroValue5
 t9:=Tryz.underlying9
 a9:=Tryz.isAgg9
 z9:=Tryz.sizeOf9
 v9:=Tryz.zeroValue9
 t20:=Tryz.underlying20
 a20:=Tryz.isAgg20
 z20:=Tryz.sizeOf20
 v20:=Tryz.zeroValue20
 t21:=Tryz.underlying21
 a21:=Tryz.isAgg21
 z21:=Tryz.sizeOf21
 v21:=Tryz.zeroValue21
 t37:=Tryz.underlying258
 a37:=Tryz.isAgg258
 z37:=Tryz.sizeOf258
 v37:=Tryz.zeroValue258
 t46:=Tryz.underlying176
 a46:=Tryz.isAgg176
 z46:=Tryz.sizeOf176
 v46:=Tryz.zeroValue176
 t51:=Tryz.underlying222
 a51:=Tryz.isAgg222
 z51:=Tryz.sizeOf222
 v51:=Tryz.zeroValue222
 t70:=Tryz.underlying293
 a70:=Tryz.isAgg293
 z70:=Tryz.sizeOf293
 v70:=Tryz.zeroValue293
 t72:=Tryz.underlying295
 a72:=Tryz.isAgg295
 z72:=Tryz.sizeOf295
 v72:=Tryz.zeroValue295
 t75:=Tryz.underlying298
 a75:=Tryz.isAgg298
 z75:=Tryz.sizeOf298
 v75:=Tryz.zeroValue298
 t76:=Tryz.underlying299
 a76:=Tryz.isAgg299
 z76:=Tryz.sizeOf299
 v76:=Tryz.zeroValue299
 t105:=Tryz.underlying329
 a105:=Tryz.isAgg329
 z105:=Tryz.sizeOf329
 v105:=Tryz.zeroValue329
 t119:=Tryz.underlying352
 a119:=Tryz.isAgg352
 z119:=Tryz.sizeOf352
 t127:=Tryz.underlying328
 a127:=Tryz.isAgg328
 z127:=Tryz.sizeOf328
 v127:=Tryz.zeroValue328
 t138:=Tryz.underlying354
 a138:=Tryz.isAgg354
 z138:=Tryz.sizeOf354
 v138:=Tryz.zeroValue354
 t139:=Tryz.underlying355
 a139:=Tryz.isAgg355
 z139:=Tryz.sizeOf355
 v139:=Tryz.zeroValue355
 t146:=Tryz.underlying368
 a146:=Tryz.isAgg368
 z146:=Tryz.sizeOf368
 v146:=Tryz.zeroValue368
 t164:=Tryz.underlying339
 a164:=Tryz.isAgg339
 z164:=Tryz.sizeOf339
 v164:=Tryz.zeroValue339
 g1:=by kernel_rfl
 g3:=by kernel_rfl
 g4:=by kernel_rfl }
theorem Tryz.Builder_Extra_155:Builder.Extra Tryz.prog Tryz.lays155_ren:={
 sizeBuilder:=by kernel_rfl
 liesBuilder:=by kernel_rfl
 t5:=Tryz.underlying5
 a5:=Tryz.isAgg5
 z5:=Tryz.sizeOf5
 v5:=Tryz.zeroValue5
 infoByte:=by kernel_rfl
 cellsByte:=by kernel_rfl
 sizeByte:=by kernel_rfl
 neB5:=by decide }
open Go.RowKit Go.Lib in
theorem Tryz.strings_ReplaceAll (s old new:ByteArray) (m:Int) (w:World) (hs:s.size < 4294967281) (hm:w.cell? ⟨0,0,none⟩=some (.int .i64 m)) (h1:1≤old.size) (hlen:s.size+Lib.countB s old * new.size≤140737488355328):
  Calls Tryz.prog 276 #[.string s,.string old,.string new] w fun e w'=>
   e=.returned (.string ⟨(Lib.replaceAll s.data.toList old.data.toList new.data.toList).toArray⟩)∧Below w.heap.size w w':=Any.strings_ReplaceAll Tryz.lays155 Tryz.Builder_Extra_155 s old new m w hs hm h1 hlen
open Go.RowKit Go.Lib in
theorem Tryz.strings_IndexFunc_grows (g:Nat) (lb:Array Value) (eg:∀ args w,(callFunc g args).run Tryz.prog w=.ok (.enter g args) w) (p:Nat→Bool) (s:ByteArray) (w:World) (hp:PredGrows Tryz.prog g lb p w):
 Calls Tryz.prog 64 #[.string s,.func (.func g) #[] lb] w fun e w'=>e=.returned (.int .i64 (Lib.idxFunc p true s))∧Below w.heap.size w w':=Any.strings_IndexFunc_grows Tryz.laysGw15 g lb eg p s w hp
end Go.Proofs
