/- The library's contracts at this program (written by the kit's own tool). -/
import Derived.Shelf.Strings.Builder1
import Derived.Shelf.Strings.Builder2
import Derived.Shelf.Strings.OnBuilder
import Derived.Shelf.Small.Utf8
import Derived.Shelf.Small.Bits
import Derived.Shelf.Small.Strs
import Derived.Shelf.Small.Wraps
import Derived.Shelf.Utf8.RuneCount
import Derived.Shelf.Strconv.Itoa0
import Derived.Shelf.Strconv.Itoa1
import Derived.Shelf.LaysM
import Derived.Shelf.Strconv.Itoa2
import Derived.Shelf.Strconv.Itoa3
import Derived.Shelf.Strconv.Itoa4
import Derived.Shelf.Strings.Search1
import Derived.Shelf.Strings.Search2
import Derived.Shelf.Strings.Search3
import Derived.Shelf.Strings.Count
import Derived.Shelf.Strings.Shaped
import Derived.Shelf.GgClosure.StringsIndexFunc
import Derived.Ground.GgwProg
import Derived.Shelf.GgClosure.StringsIndexFuncTop
import Derived.Shelf.Strings.Split
import Derived.Shelf.Strings.Replace
import Derived.Shelf.Strings.SplitShaped
import Derived.Shelf.Unicode.Latin
import Derived.Shelf.Unicode.Decode
import Derived.Shelf.Strings.RuneCount
import Derived.Shelf.Unicode.DecodeSlow
import Derived.Shelf.Unicode.DecodeAny
import Derived.Shelf.Unicode.CaseLookup
import Derived.Shelf.Unicode.CaseConvert
import Derived.Shelf.Unicode.CaseTo
import Derived.Shelf.Unicode.CaseLaid
import Derived.Shelf.Strings.FuncGrows
import Derived.Ground.Names2Prog
import Derived.Shelf.Slices.SearchI
import Derived.Test.YtjfdpfapcmcncaaGreatDoorProg
namespace Go.Proofs
open Go.Shelf
theorem ck{α:Type}{a b:α}(h:a=b:=by kernel_rfl):some a=some b:=congrArg some h
def Tryz.lays158_ren:Go.Shelf.Ren:=⟨fun | 158=>242 | 165=>279 | 166=>280 | 167=>281 | 169=>282 | 230=>283 | 203=>284 | 240=>307 | 241=>308 | 197=>309 | 118=>310 | 168=>311 | 270=>312 | 262=>313 | 276=>333 | 277=>334 | 260=>335 | 242=>336 | 313=>337 | 278=>348 | 274=>349 | 275=>350 | n=>n,fun | 9=>9 | 4=>4 | 3=>3 | 5=>5 | 72=>305 | 0=>0 | 76=>309 | 75=>308 | 107=>313 | 70=>303 | 20=>20 | 37=>269 | 127=>334 | 21=>21 | 105=>335 | 164=>347 | 162=>353 | 203=>351 | 119=>362 | 46=>207 | 139=>365 | 138=>364 | 51=>238 | 160=>366 | 208=>375 | 206=>373 | 80=>160 | n=>n,fun | 13=>2 | 3=>3 | 4=>4 | n=>n⟩
theorem Tryz.lays158:Go.Proofs.Lays.n158 Tryz.prog Tryz.lays158_ren:={
 mixed:=by kernel_rfl
 f118:=Tryz.func310.trans ck
 f158:=Tryz.func242.trans ck
 f165:=Tryz.func279.trans ck
 f166:=Tryz.func280.trans ck
 f167:=Tryz.func281.trans ck
 f168:=Tryz.func311.trans ck
 f169:=Tryz.func282.trans ck
 f197:=Tryz.func309.trans ck
 f203:=Tryz.func284.trans ck
 f230:=Tryz.func283.trans ck
 f240:=Tryz.func307.trans ck
 f241:=Tryz.func308.trans ck
 f242:=Tryz.func336.trans ck
 f260:=Tryz.func335.trans ck
 f262:=Tryz.func313.trans ck
 f270:=Tryz.func312.trans ck
 f274:=Tryz.func349.trans ck
 f275:=Tryz.func350.trans ck
 f276:=Tryz.func333.trans ck
 f277:=Tryz.func334.trans ck
 f278:=Tryz.func348.trans ck
 f313:=Tryz.func337.trans ck
 t0:=Tryz.underlying0
 a0:=Tryz.isAgg0
 z0:=Tryz.sizeOf0
 v0:=Tryz.zeroValue0
 t3:=Tryz.underlying3
 a3:=Tryz.isAgg3
 z3:=Tryz.sizeOf3
 v3:=Tryz.zeroValue3
 t4:=Tryz.underlying4
 a4:=Tryz.isAgg4
 z4:=Tryz.sizeOf4
 v4:=Tryz.zeroValue4
 t5:=Tryz.underlying5
 a5:=Tryz.isAgg5
 z5:=Tryz.sizeOf5
 v5:=Tryz.zeroValue5
 t9:=Tryz.underlying9
 a9:=Tryz.isAgg9
 z9:=Tryz.sizeOf9
 v9:=Tryz.zeroValue9
 t20:=Tryz.underlying20
 a20:=Tryz.isAgg20
 z20:=Tryz.sizeOf20
 v20:=Tryz.zeroValue20
 t21:=Tryz.underlying21
 a21:=Tryz.isAgg21
 z21:=Tryz.sizeOf21
 v21:=Tryz.zeroValue21
 t37:=Tryz.underlying269
 a37:=Tryz.isAgg269
 z37:=Tryz.sizeOf269
 v37:=Tryz.zeroValue269
 t46:=Tryz.underlying207
 a46:=Tryz.isAgg207
 z46:=Tryz.sizeOf207
 v46:=Tryz.zeroValue207
 t51:=Tryz.underlying238
 a51:=Tryz.isAgg238
 z51:=Tryz.sizeOf238
 v51:=Tryz.zeroValue238
 t70:=Tryz.underlying303
 a70:=Tryz.isAgg303
 z70:=Tryz.sizeOf303
 v70:=Tryz.zeroValue303
 t72:=Tryz.underlying305
 a72:=Tryz.isAgg305
 z72:=Tryz.sizeOf305
 v72:=Tryz.zeroValue305
 t75:=Tryz.underlying308
 a75:=Tryz.isAgg308
 z75:=Tryz.sizeOf308
 v75:=Tryz.zeroValue308
 t76:=Tryz.underlying309
 a76:=Tryz.isAgg309
 z76:=Tryz.sizeOf309
 v76:=Tryz.zeroValue309
 t105:=Tryz.underlying335
 a105:=Tryz.isAgg335
 z105:=Tryz.sizeOf335
 v105:=Tryz.zeroValue335
 t107:=Tryz.underlying313
 a107:=Tryz.isAgg313
 z107:=Tryz.sizeOf313
 v107:=Tryz.zeroValue313
 t119:=Tryz.underlying362
 a119:=Tryz.isAgg362
 z119:=Tryz.sizeOf362
 t127:=Tryz.underlying334
 a127:=Tryz.isAgg334
 z127:=Tryz.sizeOf334
 v127:=Tryz.zeroValue334
 t138:=Tryz.underlying364
 a138:=Tryz.isAgg364
 z138:=Tryz.sizeOf364
 v138:=Tryz.zeroValue364
 t139:=Tryz.underlying365
 a139:=Tryz.isAgg365
 z139:=Tryz.sizeOf365
 v139:=Tryz.zeroValue365
 t160:=Tryz.underlying366
 a160:=Tryz.isAgg366
 z160:=Tryz.sizeOf366
 v160:=Tryz.zeroValue366
 t162:=Tryz.underlying353
 a162:=Tryz.isAgg353
 z162:=Tryz.sizeOf353
 v162:=Tryz.zeroValue353
 t164:=Tryz.underlying347
 a164:=Tryz.isAgg347
 z164:=Tryz.sizeOf347
 v164:=Tryz.zeroValue347
 t203:=Tryz.underlying351
 a203:=Tryz.isAgg351
 z203:=Tryz.sizeOf351
 v203:=Tryz.zeroValue351
 t206:=Tryz.underlying373
 a206:=Tryz.isAgg373
 z206:=Tryz.sizeOf373
 v206:=Tryz.zeroValue373
 t208:=Tryz.underlying375
 a208:=Tryz.isAgg375
 z208:=Tryz.sizeOf375
 v208:=Tryz.zeroValue375
 g3:=by kernel_rfl
 g4:=by kernel_rfl
 g13:=by kernel_rfl }
theorem Tryz.Builder_Extra_158:Builder.Extra Tryz.prog Tryz.lays158_ren:={
 sizeBuilder:=by kernel_rfl
 liesBuilder:=by kernel_rfl
 t5:=Tryz.underlying5
 a5:=Tryz.isAgg5
 z5:=Tryz.sizeOf5
 v5:=Tryz.zeroValue5
 infoByte:=by kernel_rfl
 cellsByte:=by kernel_rfl
 sizeByte:=by kernel_rfl
 neB5:=by decide }
open Go.RowKit in
theorem Tryz.strings_ToUpper_ascii (s:ByteArray) (w:World) (hs:s.size≤140737488355328) (hascii:∀ (j:Nat) (b:UInt8),s.data.toList[j]?=some b→b.toNat < 128):
  Calls Tryz.prog 242 #[.string s] w fun e w'=>e=.returned (.string ⟨(Lib.toUpperA s.data.toList).toArray⟩)∧Below w.heap.size w w':=Any.strings_ToUpper_ascii Tryz.lays158 Tryz.Builder_Extra_158 s w hs hascii
def Tryz.lays156_ren:Go.Shelf.Ren:=⟨fun | 156=>287 | 165=>279 | 166=>280 | 169=>282 | 240=>307 | 241=>308 | 276=>333 | 277=>334 | n=>n,fun | 31=>23 | 9=>9 | 3=>3 | 4=>4 | 0=>0 | 20=>20 | 72=>305 | 76=>309 | 70=>303 | 37=>269 | 75=>308 | 127=>334 | 164=>347 | 5=>5 | 80=>160 | n=>n,fun | n=>n⟩
theorem Tryz.lays156:Go.Proofs.Lays.n156 Tryz.prog Tryz.lays156_ren:={
 mixed:=by kernel_rfl
 f156:=Tryz.func287.trans ck
 f165:=Tryz.func279.trans ck
 f166:=Tryz.func280.trans ck
 f169:=Tryz.func282.trans ck
 f240:=Tryz.func307.trans ck
 f241:=Tryz.func308.trans ck
 f276:=Tryz.func333.trans ck
 f277:=Tryz.func334.trans ck
 t0:=Tryz.underlying0
 a0:=Tryz.isAgg0
 z0:=Tryz.sizeOf0
 v0:=Tryz.zeroValue0
 t3:=Tryz.underlying3
 a3:=Tryz.isAgg3
 z3:=Tryz.sizeOf3
 v3:=Tryz.zeroValue3
 t4:=Tryz.underlying4
 a4:=Tryz.isAgg4
 z4:=Tryz.sizeOf4
 v4:=Tryz.zeroValue4
 t9:=Tryz.underlying9
 a9:=Tryz.isAgg9
 z9:=Tryz.sizeOf9
 v9:=Tryz.zeroValue9
 t20:=Tryz.underlying20
 a20:=Tryz.isAgg20
 z20:=Tryz.sizeOf20
 v20:=Tryz.zeroValue20
 t31:=Tryz.underlying23
 a31:=Tryz.isAgg23
 z31:=Tryz.sizeOf23
 v31:=Tryz.zeroValue23
 t37:=Tryz.underlying269
 a37:=Tryz.isAgg269
 z37:=Tryz.sizeOf269
 v37:=Tryz.zeroValue269
 t70:=Tryz.underlying303
 a70:=Tryz.isAgg303
 z70:=Tryz.sizeOf303
 v70:=Tryz.zeroValue303
 t72:=Tryz.underlying305
 a72:=Tryz.isAgg305
 z72:=Tryz.sizeOf305
 v72:=Tryz.zeroValue305
 t75:=Tryz.underlying308
 a75:=Tryz.isAgg308
 z75:=Tryz.sizeOf308
 v75:=Tryz.zeroValue308
 t76:=Tryz.underlying309
 a76:=Tryz.isAgg309
 z76:=Tryz.sizeOf309
 v76:=Tryz.zeroValue309
 t127:=Tryz.underlying334
 a127:=Tryz.isAgg334
 z127:=Tryz.sizeOf334
 v127:=Tryz.zeroValue334
 t164:=Tryz.underlying347
 a164:=Tryz.isAgg347
 z164:=Tryz.sizeOf347
 v164:=Tryz.zeroValue347 }
theorem Tryz.Builder_Extra_156:Builder.Extra Tryz.prog Tryz.lays156_ren:={
 sizeBuilder:=by kernel_rfl
 liesBuilder:=by kernel_rfl
 t5:=Tryz.underlying5
 a5:=Tryz.isAgg5
 z5:=Tryz.sizeOf5
 v5:=Tryz.zeroValue5
 infoByte:=by kernel_rfl
 cellsByte:=by kernel_rfl
 sizeByte:=by kernel_rfl
 neB5:=by decide }
open Go.RowKit in
theorem Tryz.strings_Join_none (a:Option Addr) (c:Nat) (sep:ByteArray) (w:World):
  Calls Tryz.prog 287 #[.slice a 0 c,.string sep] w fun e w'=>e=.returned (.string ⟨#[]⟩)∧w'=w:=Any.strings_Join_none Tryz.lays156 Tryz.Builder_Extra_156 a c sep w
open Go.RowKit in
theorem Tryz.strings_Join (bk o c:Nat) (xs:List ByteArray) (sep:ByteArray) (w:World) (hcells:∀ (j:Nat) x,xs[j]?=some x→w.cell? ⟨bk,o+j,none⟩=some (.string x)) (hbk:bk < w.heap.size) (hN:xs.length≤140737488355328) (hcap:xs.length≤c) (hlen:(Lib.join (xs.map (·.data.toList)) sep.data.toList).length≤140737488355328):
  Calls Tryz.prog 287 #[.slice (some ⟨bk,o,none⟩) xs.length c,.string sep] w fun e w'=>e=.returned (.string ⟨(Lib.join (xs.map (·.data.toList)) sep.data.toList).toArray⟩)∧Below w.heap.size w w':=Any.strings_Join Tryz.lays156 Tryz.Builder_Extra_156 bk o c xs sep w hcells hbk hN hcap hlen
def Tryz.laysM173_ren:Go.Shelf.Ren:=⟨fun | 173=>288 | 246=>314 | 283=>338 | 284=>339 | 285=>340 | 286=>341 | 129=>190 | 317=>351 | 318=>352 | 319=>353 | 320=>354 | 337=>357 | 338=>358 | n=>n,fun | 2=>2 | 3=>3 | 9=>9 | 4=>4 | 171=>355 | 0=>0 | 53=>240 | 37=>269 | 5=>5 | 173=>357 | 212=>370 | 51=>238 | 20=>20 | 213=>371 | 46=>207 | 232=>376 | 233=>377 | n=>n,fun | 17=>5 | 18=>6 | 19=>7 | n=>n⟩
theorem Tryz.laysM173:Go.Proofs.LaysM.n173 Tryz.prog Tryz.laysM173_ren:={
 mixed:=by kernel_rfl
 f129:=Tryz.func190.trans ck
 f173:=Tryz.func288.trans ck
 f246:=Tryz.func314.trans ck
 f283:=Tryz.func338.trans ck
 f284:=Tryz.func339.trans ck
 f285:=Tryz.func340.trans ck
 f286:=Tryz.func341.trans ck
 f317:=Tryz.func351.trans ck
 f318:=Tryz.func352.trans ck
 f319:=Tryz.func353.trans ck
 f320:=Tryz.func354.trans ck
 f337:=Tryz.func357.trans ck
 f338:=Tryz.func358.trans ck
 t0:=Tryz.underlying0
 a0:=Tryz.isAgg0
 z0:=Tryz.sizeOf0
 v0:=Tryz.zeroValue0
 t2:=Tryz.underlying2
 a2:=Tryz.isAgg2
 z2:=Tryz.sizeOf2
 v2:=Tryz.zeroValue2
 t3:=Tryz.underlying3
 a3:=Tryz.isAgg3
 z3:=Tryz.sizeOf3
 v3:=Tryz.zeroValue3
 t4:=Tryz.underlying4
 a4:=Tryz.isAgg4
 z4:=Tryz.sizeOf4
 v4:=Tryz.zeroValue4
 t5:=Tryz.underlying5
 a5:=Tryz.isAgg5
 z5:=Tryz.sizeOf5
 v5:=Tryz.zeroValue5
 t9:=Tryz.underlying9
 a9:=Tryz.isAgg9
 z9:=Tryz.sizeOf9
 v9:=Tryz.zeroValue9
 t20:=Tryz.underlying20
 a20:=Tryz.isAgg20
 z20:=Tryz.sizeOf20
 v20:=Tryz.zeroValue20
 t37:=Tryz.underlying269
 a37:=Tryz.isAgg269
 z37:=Tryz.sizeOf269
 v37:=Tryz.zeroValue269
 t46:=Tryz.underlying207
 a46:=Tryz.isAgg207
 z46:=Tryz.sizeOf207
 v46:=Tryz.zeroValue207
 t51:=Tryz.underlying238
 a51:=Tryz.isAgg238
 z51:=Tryz.sizeOf238
 v51:=Tryz.zeroValue238
 t53:=Tryz.underlying240
 a53:=Tryz.isAgg240
 z53:=Tryz.sizeOf240
 v53:=Tryz.zeroValue240
 t171:=Tryz.underlying355
 a171:=Tryz.isAgg355
 z171:=Tryz.sizeOf355
 v171:=Tryz.zeroValue355
 t173:=Tryz.underlying357
 a173:=Tryz.isAgg357
 z173:=Tryz.sizeOf357
 v173:=Tryz.zeroValue357
 t212:=Tryz.underlying370
 a212:=Tryz.isAgg370
 z212:=Tryz.sizeOf370
 v212:=Tryz.zeroValue370
 t213:=Tryz.underlying371
 a213:=Tryz.isAgg371
 z213:=Tryz.sizeOf371
 t232:=Tryz.underlying376
 a232:=Tryz.isAgg376
 z232:=Tryz.sizeOf376
 v232:=Tryz.zeroValue376
 t233:=Tryz.underlying377
 a233:=Tryz.isAgg377
 z233:=Tryz.sizeOf377
 v233:=Tryz.zeroValue377
 g17:=by kernel_rfl
 g18:=by kernel_rfl
 g19:=by kernel_rfl
 i0:=by kernel_rfl
 i2:=by kernel_rfl
 i3:=by kernel_rfl
 i4:=by kernel_rfl
 i5:=by kernel_rfl
 i9:=by kernel_rfl
 i20:=by kernel_rfl
 i37:=by kernel_rfl
 i46:=by kernel_rfl
 i51:=by kernel_rfl
 i53:=by kernel_rfl
 i171:=by kernel_rfl
 i173:=by kernel_rfl
 i212:=by kernel_rfl
 i232:=by kernel_rfl
 i233:=by kernel_rfl
 m17:=by kernel_rfl
 m18:=by kernel_rfl
 m19:=by kernel_rfl }
open Go.RowKit Go.Sort Go.Lib in
theorem Tryz.strconv_FormatInt_10 (n:Int) (h0:-9223372036854775808≤n) (h1:n≤9223372036854775807) (w:World) (htab:Lib.TabIs Tryz.prog w "internal/strconv.uint64pow10" .u64 Lib.pow10Tab):
  Calls Tryz.prog 288 #[.int .i64 n,.int .i64 10] w fun e w'=>e=.returned (.string ⟨(Lib.itoa n).toArray⟩)∧∃ k os,w'=grow (w.drewN k) os:=Any.strconv_FormatInt_10 Tryz.laysM173 n h0 h1 w htab
def Tryz.lays144_ren:Go.Shelf.Ren:=⟨fun | 144=>223 | 143=>261 | 219=>299 | 217=>328 | 225=>329 | 224=>330 | 267=>331 | 266=>346 | 314=>347 | n=>n,fun | 9=>9 | 4=>4 | 3=>3 | 5=>5 | 46=>207 | 146=>360 | 51=>238 | n=>n,fun | 1=>0 | n=>n⟩
theorem Tryz.lays144:Go.Proofs.Lays.n144 Tryz.prog Tryz.lays144_ren:={
 mixed:=by kernel_rfl
 f143:=Tryz.func261.trans ck
 f144:=Tryz.func223.trans ck
 f217:=Tryz.func328.trans ck
 f219:=Tryz.func299.trans ck
 f224:=Tryz.func330.trans ck
 f225:=Tryz.func329.trans ck
 f266:=Tryz.func346.trans ck
 f267:=Tryz.func331.trans ck
 f314:=Tryz.func347.trans ck
 t3:=Tryz.underlying3
 a3:=Tryz.isAgg3
 z3:=Tryz.sizeOf3
 v3:=Tryz.zeroValue3
 t4:=Tryz.underlying4
 a4:=Tryz.isAgg4
 z4:=Tryz.sizeOf4
 v4:=Tryz.zeroValue4
 t5:=Tryz.underlying5
 a5:=Tryz.isAgg5
 z5:=Tryz.sizeOf5
 v5:=Tryz.zeroValue5
 t9:=Tryz.underlying9
 a9:=Tryz.isAgg9
 z9:=Tryz.sizeOf9
 v9:=Tryz.zeroValue9
 t46:=Tryz.underlying207
 a46:=Tryz.isAgg207
 z46:=Tryz.sizeOf207
 v46:=Tryz.zeroValue207
 t51:=Tryz.underlying238
 a51:=Tryz.isAgg238
 z51:=Tryz.sizeOf238
 v51:=Tryz.zeroValue238
 t146:=Tryz.underlying360
 a146:=Tryz.isAgg360
 z146:=Tryz.sizeOf360
 v146:=Tryz.zeroValue360
 g1:=by kernel_rfl }
open Go.RowKit Go.Lib in
theorem Tryz.strings_Contains_one (s:ByteArray) (c:UInt8) (w:World):
  Calls Tryz.prog 223 #[.string s,.string ⟨#[c]⟩] w fun e w'=>e=.returned (.bool (decide (0≤Lib.indexByte s.data.toList c)))∧w'=w:=Any.strings_Contains_one Tryz.lays144 s c w
def Tryz.laysGw15_ren:Go.Shelf.Ren:=⟨fun | 15=>177 | 20=>222 | n=>n,fun | 9=>9 | 23=>225 | 3=>3 | 4=>4 | 0=>0 | 21=>21 | n=>n,fun | n=>n⟩
theorem Tryz.laysGw15:Go.Proofs.LaysGw.n15 Tryz.prog Tryz.laysGw15_ren:={
 mixed:=by kernel_rfl
 f15:=Tryz.func177.trans ck
 f20:=Tryz.func222.trans ck
 t0:=Tryz.underlying0
 a0:=Tryz.isAgg0
 z0:=Tryz.sizeOf0
 v0:=Tryz.zeroValue0
 i0:=by kernel_rfl
 t3:=Tryz.underlying3
 a3:=Tryz.isAgg3
 z3:=Tryz.sizeOf3
 v3:=Tryz.zeroValue3
 i3:=by kernel_rfl
 t4:=Tryz.underlying4
 a4:=Tryz.isAgg4
 z4:=Tryz.sizeOf4
 v4:=Tryz.zeroValue4
 i4:=by kernel_rfl
 t9:=Tryz.underlying9
 a9:=Tryz.isAgg9
 z9:=Tryz.sizeOf9
 v9:=Tryz.zeroValue9
 i9:=by kernel_rfl
 t21:=Tryz.underlying21
 a21:=Tryz.isAgg21
 z21:=Tryz.sizeOf21
 v21:=Tryz.zeroValue21
 i21:=by kernel_rfl
 t23:=Tryz.underlying225
 a23:=Tryz.isAgg225
 z23:=Tryz.sizeOf225
 v23:=Tryz.zeroValue225
 i23:=by kernel_rfl }
def Tryz.lays155_ren:Go.Shelf.Ren:=⟨fun | 155=>289 | 154=>315 | 138=>342 | 165=>279 | 143=>261 | 166=>280 | 197=>309 | 169=>282 | 195=>355 | 218=>356 | 240=>307 | 241=>308 | 219=>299 | 260=>335 | 276=>333 | 277=>334 | 217=>328 | 225=>329 | 224=>330 | 267=>331 | 266=>346 | 314=>347 | n=>n,fun | 9=>9 | 3=>3 | 4=>4 | 72=>305 | 0=>0 | 76=>309 | 105=>335 | 21=>21 | 5=>5 | 70=>303 | 20=>20 | 37=>269 | 75=>308 | 127=>334 | 164=>347 | 46=>207 | 119=>362 | 139=>365 | 138=>364 | 146=>360 | 51=>238 | 80=>160 | n=>n,fun | 1=>0 | 3=>3 | 4=>4 | n=>n⟩
theorem Tryz.lays155:Go.Proofs.Lays.n155 Tryz.prog Tryz.lays155_ren:={
 mixed:=by kernel_rfl
 f138:=Tryz.func342.trans ck
 f143:=Tryz.func261.trans ck
 f154:=Tryz.func315.trans ck
 f155:=Tryz.func289.trans ck
 f165:=Tryz.func279.trans ck
 f166:=Tryz.func280.trans ck
 f169:=Tryz.func282.trans ck
 f195:=Tryz.func355.trans ck
 f197:=Tryz.func309.trans ck
 f217:=Tryz.func328.trans ck
 f218:=Tryz.func356.trans ck
 f219:=Tryz.func299.trans ck
 f224:=Tryz.func330.trans ck
 f225:=Tryz.func329.trans ck
 f240:=Tryz.func307.trans ck
 f241:=Tryz.func308.trans ck
 f260:=Tryz.func335.trans ck
 f266:=Tryz.func346.trans ck
 f267:=Tryz.func331.trans ck
 f276:=Tryz.func333.trans ck
 f277:=Tryz.func334.trans ck
 f314:=Tryz.func347.trans ck
 t0:=Tryz.underlying0
 a0:=Tryz.isAgg0
 z0:=Tryz.sizeOf0
 v0:=Tryz.zeroValue0
 t3:=Tryz.underlying3
 a3:=Tryz.isAgg3
 z3:=Tryz.sizeOf3
 v3:=Tryz.zeroValue3
 t4:=Tryz.underlying4
 a4:=Tryz.isAgg4
 z4:=Tryz.sizeOf4
 v4:=Tryz.zeroValue4
 t5:=Tryz.underlying5
 a5:=Tryz.isAgg5
 z5:=Tryz.sizeOf5
 v5:=Tryz.zeroValue5
 t9:=Tryz.underlying9
 a9:=Tryz.isAgg9
 z9:=Tryz.sizeOf9
 v9:=Tryz.zeroValue9
 t20:=Tryz.underlying20
 a20:=Tryz.isAgg20
 z20:=Tryz.sizeOf20
 v20:=Tryz.zeroValue20
 t21:=Tryz.underlying21
 a21:=Tryz.isAgg21
 z21:=Tryz.sizeOf21
 v21:=Tryz.zeroValue21
 t37:=Tryz.underlying269
 a37:=Tryz.isAgg269
 z37:=Tryz.sizeOf269
 v37:=Tryz.zeroValue269
 t46:=Tryz.underlying207
 a46:=Tryz.isAgg207
 z46:=Tryz.sizeOf207
 v46:=Tryz.zeroValue207
 t51:=Tryz.underlying238
 a51:=Tryz.isAgg238
 z51:=Tryz.sizeOf238
 v51:=Tryz.zeroValue238
 t70:=Tryz.underlying303
 a70:=Tryz.isAgg303
 z70:=Tryz.sizeOf303
 v70:=Tryz.zeroValue303
 t72:=Tryz.underlying305
 a72:=Tryz.isAgg305
 z72:=Tryz.sizeOf305
 v72:=Tryz.zeroValue305
 t75:=Tryz.underlying308
 a75:=Tryz.isAgg308
 z75:=Tryz.sizeOf308
 v75:=Tryz.zeroValue308
 t76:=Tryz.underlying309
 a76:=Tryz.isAgg309
 z76:=Tryz.sizeOf309
 v76:=Tryz.zeroValue309
 t105:=Tryz.underlying335
 a105:=Tryz.isAgg335
 z105:=Tryz.sizeOf335
 v105:=Tryz.zeroValue335
 t119:=Tryz.underlying362
 a119:=Tryz.isAgg362
 z119:=Tryz.sizeOf362
 t127:=Tryz.underlying334
 a127:=Tryz.isAgg334
 z127:=Tryz.sizeOf334
 v127:=Tryz.zeroValue334
 t138:=Tryz.underlying364
 a138:=Tryz.isAgg364
 z138:=Tryz.sizeOf364
 v138:=Tryz.zeroValue364
 t139:=Tryz.underlying365
 a139:=Tryz.isAgg365
 z139:=Tryz.sizeOf365
 v139:=Tryz.zeroValue365
 t146:=Tryz.underlying360
 a146:=Tryz.isAgg360
 z146:=Tryz.sizeOf360
 v146:=Tryz.zeroValue360
 t164:=Tryz.underlying347
 a164:=Tryz.isAgg347
 z164:=Tryz.sizeOf347
 v164:=Tryz.zeroValue347
 g1:=by kernel_rfl
 g3:=by kernel_rfl
 g4:=by kernel_rfl }
theorem Tryz.Builder_Extra_155:Builder.Extra Tryz.prog Tryz.lays155_ren:={
 sizeBuilder:=by kernel_rfl
 liesBuilder:=by kernel_rfl
 t5:=Tryz.underlying5
 a5:=Tryz.isAgg5
 z5:=Tryz.sizeOf5
 v5:=Tryz.zeroValue5
 infoByte:=by kernel_rfl
 cellsByte:=by kernel_rfl
 sizeByte:=by kernel_rfl
 neB5:=by decide }
open Go.RowKit Go.Lib in
theorem Tryz.strings_ReplaceAll (s old new:ByteArray) (m:Int) (w:World) (hs:s.size < 4294967281) (hm:w.cell? ⟨0,0,none⟩=some (.int .i64 m)) (h1:1≤old.size) (hlen:s.size+Lib.countB s old * new.size≤140737488355328):
  Calls Tryz.prog 289 #[.string s,.string old,.string new] w fun e w'=>
   e=.returned (.string ⟨(Lib.replaceAll s.data.toList old.data.toList new.data.toList).toArray⟩)∧Below w.heap.size w w':=Any.strings_ReplaceAll Tryz.lays155 Tryz.Builder_Extra_155 s old new m w hs hm h1 hlen
open Go.RowKit Go.Lib in
theorem Tryz.strings_IndexFunc_grows (g:Nat) (lb:Array Value) (eg:∀ args w,(callFunc g args).run Tryz.prog w=.ok (.enter g args) w) (p:Nat→Bool) (s:ByteArray) (w:World) (hp:PredGrows Tryz.prog g lb p w):
  Calls Tryz.prog 177 #[.string s,.func (.func g) #[] lb] w fun e w'=>e=.returned (.int .i64 (Lib.idxFunc p true s))∧Below w.heap.size w w':=Any.strings_IndexFunc_grows Tryz.laysGw15 g lb eg p s w hp
end Go.Proofs
