/- The library's contracts at this program (written by the kit's own tool). -/
import Derived.Shelf.Strings.Builder1
import Derived.Shelf.Strings.Builder2
import Derived.Shelf.Strings.OnBuilder
import Derived.Shelf.Small.Utf8
import Derived.Shelf.Small.Bits
import Derived.Shelf.Small.Strs
import Derived.Shelf.Small.Wraps
import Derived.Shelf.Utf8.RuneCount
import Derived.Shelf.Strconv.Itoa0
import Derived.Shelf.Strconv.Itoa1
import Derived.Shelf.LaysM
import Derived.Shelf.Strconv.Itoa2
import Derived.Shelf.Strconv.Itoa3
import Derived.Shelf.Strconv.Itoa4
import Derived.Shelf.Strings.Search1
import Derived.Shelf.Strings.Search2
import Derived.Shelf.Strings.Search3
import Derived.Shelf.Strings.Count
import Derived.Shelf.Strings.Shaped
import Derived.Shelf.GgClosure.StringsIndexFunc
import Derived.Ground.GgwProg
import Derived.Shelf.GgClosure.StringsIndexFuncTop
import Derived.Shelf.Strings.Split
import Derived.Shelf.Strings.Replace
import Derived.Shelf.Strings.SplitShaped
import Derived.Shelf.Unicode.Latin
import Derived.Shelf.Unicode.Decode
import Derived.Shelf.Strings.RuneCount
import Derived.Shelf.Unicode.DecodeSlow
import Derived.Shelf.Unicode.DecodeAny
import Derived.Shelf.Unicode.CaseLookup
import Derived.Shelf.Unicode.CaseConvert
import Derived.Shelf.Unicode.CaseTo
import Derived.Shelf.Unicode.CaseLaid
import Derived.Shelf.Strings.FuncGrows
import Derived.Ground.Names2Prog
import Derived.Shelf.Slices.SearchI
import Derived.Test.YtjdjldbhjmgmkaaGreatDoorProg
namespace Go.Proofs
open Go.Shelf
theorem ck{α:Type}{a b:α}(h:a=b:=by kernel_rfl):some a=some b:=congrArg some h
def Tryz.lays158_ren:Go.Shelf.Ren:=⟨fun | 158=>291 | 165=>324 | 166=>325 | 167=>326 | 169=>327 | 230=>328 | 203=>329 | 240=>346 | 241=>347 | 197=>348 | 118=>349 | 168=>350 | 270=>351 | 262=>352 | 276=>361 | 277=>362 | 260=>363 | 242=>364 | 313=>365 | 278=>373 | 274=>374 | 275=>375 | n=>n,fun | 9=>9 | 4=>4 | 3=>3 | 5=>5 | 72=>337 | 0=>0 | 76=>341 | 75=>340 | 107=>345 | 70=>335 | 20=>20 | 37=>23 | 127=>359 | 21=>21 | 105=>360 | 164=>369 | 162=>375 | 203=>373 | 119=>383 | 46=>219 | 139=>386 | 138=>385 | 51=>56 | 160=>387 | 208=>396 | 206=>394 | 80=>142 | n=>n,fun | 13=>2 | 3=>3 | 4=>4 | n=>n⟩
theorem Tryz.lays158:Go.Proofs.Lays.n158 Tryz.prog Tryz.lays158_ren:={
 mixed:=by kernel_rfl
 f118:=Tryz.func349.trans ck
 f158:=Tryz.func291.trans ck
 f165:=Tryz.func324.trans ck
 f166:=Tryz.func325.trans ck
 f167:=Tryz.func326.trans ck
 f168:=Tryz.func350.trans ck
 f169:=Tryz.func327.trans ck
 f197:=Tryz.func348.trans ck
 f203:=Tryz.func329.trans ck
 f230:=Tryz.func328.trans ck
 f240:=Tryz.func346.trans ck
 f241:=Tryz.func347.trans ck
 f242:=Tryz.func364.trans ck
 f260:=Tryz.func363.trans ck
 f262:=Tryz.func352.trans ck
 f270:=Tryz.func351.trans ck
 f274:=Tryz.func374.trans ck
 f275:=Tryz.func375.trans ck
 f276:=Tryz.func361.trans ck
 f277:=Tryz.func362.trans ck
 f278:=Tryz.func373.trans ck
 f313:=Tryz.func365.trans ck
 t0:=Tryz.underlying0
 a0:=Tryz.isAgg0
 z0:=Tryz.sizeOf0
 v0:=Tryz.zeroValue0
 t3:=Tryz.underlying3
 a3:=Tryz.isAgg3
 z3:=Tryz.sizeOf3
 v3:=Tryz.zeroValue3
 t4:=Tryz.underlying4
 a4:=Tryz.isAgg4
 z4:=Tryz.sizeOf4
 v4:=Tryz.zeroValue4
 t5:=Tryz.underlying5
 a5:=Tryz.isAgg5
 z5:=Tryz.sizeOf5
 v5:=Tryz.zeroValue5
 t9:=Tryz.underlying9
 a9:=Tryz.isAgg9
 z9:=Tryz.sizeOf9
 v9:=Tryz.zeroValue9
 t20:=Tryz.underlying20
 a20:=Tryz.isAgg20
 z20:=Tryz.sizeOf20
 v20:=Tryz.zeroValue20
 t21:=Tryz.underlying21
 a21:=Tryz.isAgg21
 z21:=Tryz.sizeOf21
 v21:=Tryz.zeroValue21
 t37:=Tryz.underlying23
 a37:=Tryz.isAgg23
 z37:=Tryz.sizeOf23
 v37:=Tryz.zeroValue23
 t46:=Tryz.underlying219
 a46:=Tryz.isAgg219
 z46:=Tryz.sizeOf219
 v46:=Tryz.zeroValue219
 t51:=Tryz.underlying56
 a51:=Tryz.isAgg56
 z51:=Tryz.sizeOf56
 v51:=Tryz.zeroValue56
 t70:=Tryz.underlying335
 a70:=Tryz.isAgg335
 z70:=Tryz.sizeOf335
 v70:=Tryz.zeroValue335
 t72:=Tryz.underlying337
 a72:=Tryz.isAgg337
 z72:=Tryz.sizeOf337
 v72:=Tryz.zeroValue337
 t75:=Tryz.underlying340
 a75:=Tryz.isAgg340
 z75:=Tryz.sizeOf340
 v75:=Tryz.zeroValue340
 t76:=Tryz.underlying341
 a76:=Tryz.isAgg341
 z76:=Tryz.sizeOf341
 v76:=Tryz.zeroValue341
 t105:=Tryz.underlying360
 a105:=Tryz.isAgg360
 z105:=Tryz.sizeOf360
 v105:=Tryz.zeroValue360
 t107:=Tryz.underlying345
 a107:=Tryz.isAgg345
 z107:=Tryz.sizeOf345
 v107:=Tryz.zeroValue345
 t119:=Tryz.underlying383
 a119:=Tryz.isAgg383
 z119:=Tryz.sizeOf383
 t127:=Tryz.underlying359
 a127:=Tryz.isAgg359
 z127:=Tryz.sizeOf359
 v127:=Tryz.zeroValue359
 t138:=Tryz.underlying385
 a138:=Tryz.isAgg385
 z138:=Tryz.sizeOf385
 v138:=Tryz.zeroValue385
 t139:=Tryz.underlying386
 a139:=Tryz.isAgg386
 z139:=Tryz.sizeOf386
 v139:=Tryz.zeroValue386
 t160:=Tryz.underlying387
 a160:=Tryz.isAgg387
 z160:=Tryz.sizeOf387
 v160:=Tryz.zeroValue387
 t162:=Tryz.underlying375
 a162:=Tryz.isAgg375
 z162:=Tryz.sizeOf375
 v162:=Tryz.zeroValue375
 t164:=Tryz.underlying369
 a164:=Tryz.isAgg369
 z164:=Tryz.sizeOf369
 v164:=Tryz.zeroValue369
 t203:=Tryz.underlying373
 a203:=Tryz.isAgg373
 z203:=Tryz.sizeOf373
 v203:=Tryz.zeroValue373
 t206:=Tryz.underlying394
 a206:=Tryz.isAgg394
 z206:=Tryz.sizeOf394
 v206:=Tryz.zeroValue394
 t208:=Tryz.underlying396
 a208:=Tryz.isAgg396
 z208:=Tryz.sizeOf396
 v208:=Tryz.zeroValue396
 g3:=by kernel_rfl
 g4:=by kernel_rfl
 g13:=by kernel_rfl }
theorem Tryz.Builder_Extra_158:Builder.Extra Tryz.prog Tryz.lays158_ren:={
 sizeBuilder:=by kernel_rfl
 liesBuilder:=by kernel_rfl
 t5:=Tryz.underlying5
 a5:=Tryz.isAgg5
 z5:=Tryz.sizeOf5
 v5:=Tryz.zeroValue5
 infoByte:=by kernel_rfl
 cellsByte:=by kernel_rfl
 sizeByte:=by kernel_rfl
 neB5:=by decide }
open Go.RowKit in
theorem Tryz.strings_ToUpper_ascii (s:ByteArray) (w:World) (hs:s.size≤140737488355328) (hascii:∀ (j:Nat) (b:UInt8),s.data.toList[j]?=some b→b.toNat < 128):
  Calls Tryz.prog 291 #[.string s] w fun e w'=>e=.returned (.string ⟨(Lib.toUpperA s.data.toList).toArray⟩)∧Below w.heap.size w w':=Any.strings_ToUpper_ascii Tryz.lays158 Tryz.Builder_Extra_158 s w hs hascii
def Tryz.lays156_ren:Go.Shelf.Ren:=⟨fun | 156=>332 | 165=>324 | 166=>325 | 169=>327 | 240=>346 | 241=>347 | 276=>361 | 277=>362 | n=>n,fun | 31=>45 | 9=>9 | 3=>3 | 4=>4 | 0=>0 | 20=>20 | 72=>337 | 76=>341 | 70=>335 | 37=>23 | 75=>340 | 127=>359 | 164=>369 | 5=>5 | 80=>142 | n=>n,fun | n=>n⟩
theorem Tryz.lays156:Go.Proofs.Lays.n156 Tryz.prog Tryz.lays156_ren:={
 mixed:=by kernel_rfl
 f156:=Tryz.func332.trans ck
 f165:=Tryz.func324.trans ck
 f166:=Tryz.func325.trans ck
 f169:=Tryz.func327.trans ck
 f240:=Tryz.func346.trans ck
 f241:=Tryz.func347.trans ck
 f276:=Tryz.func361.trans ck
 f277:=Tryz.func362.trans ck
 t0:=Tryz.underlying0
 a0:=Tryz.isAgg0
 z0:=Tryz.sizeOf0
 v0:=Tryz.zeroValue0
 t3:=Tryz.underlying3
 a3:=Tryz.isAgg3
 z3:=Tryz.sizeOf3
 v3:=Tryz.zeroValue3
 t4:=Tryz.underlying4
 a4:=Tryz.isAgg4
 z4:=Tryz.sizeOf4
 v4:=Tryz.zeroValue4
 t9:=Tryz.underlying9
 a9:=Tryz.isAgg9
 z9:=Tryz.sizeOf9
 v9:=Tryz.zeroValue9
 t20:=Tryz.underlying20
 a20:=Tryz.isAgg20
 z20:=Tryz.sizeOf20
 v20:=Tryz.zeroValue20
 t31:=Tryz.underlying45
 a31:=Tryz.isAgg45
 z31:=Tryz.sizeOf45
 v31:=Tryz.zeroValue45
 t37:=Tryz.underlying23
 a37:=Tryz.isAgg23
 z37:=Tryz.sizeOf23
 v37:=Tryz.zeroValue23
 t70:=Tryz.underlying335
 a70:=Tryz.isAgg335
 z70:=Tryz.sizeOf335
 v70:=Tryz.zeroValue335
 t72:=Tryz.underlying337
 a72:=Tryz.isAgg337
 z72:=Tryz.sizeOf337
 v72:=Tryz.zeroValue337
 t75:=Tryz.underlying340
 a75:=Tryz.isAgg340
 z75:=Tryz.sizeOf340
 v75:=Tryz.zeroValue340
 t76:=Tryz.underlying341
 a76:=Tryz.isAgg341
 z76:=Tryz.sizeOf341
 v76:=Tryz.zeroValue341
 t127:=Tryz.underlying359
 a127:=Tryz.isAgg359
 z127:=Tryz.sizeOf359
 v127:=Tryz.zeroValue359
 t164:=Tryz.underlying369
 a164:=Tryz.isAgg369
 z164:=Tryz.sizeOf369
 v164:=Tryz.zeroValue369 }
theorem Tryz.Builder_Extra_156:Builder.Extra Tryz.prog Tryz.lays156_ren:={
 sizeBuilder:=by kernel_rfl
 liesBuilder:=by kernel_rfl
 t5:=Tryz.underlying5
 a5:=Tryz.isAgg5
 z5:=Tryz.sizeOf5
 v5:=Tryz.zeroValue5
 infoByte:=by kernel_rfl
 cellsByte:=by kernel_rfl
 sizeByte:=by kernel_rfl
 neB5:=by decide }
open Go.RowKit in
theorem Tryz.strings_Join_none (a:Option Addr) (c:Nat) (sep:ByteArray) (w:World):
  Calls Tryz.prog 332 #[.slice a 0 c,.string sep] w fun e w'=>e=.returned (.string ⟨#[]⟩)∧w'=w:=Any.strings_Join_none Tryz.lays156 Tryz.Builder_Extra_156 a c sep w
open Go.RowKit in
theorem Tryz.strings_Join (bk o c:Nat) (xs:List ByteArray) (sep:ByteArray) (w:World) (hcells:∀ (j:Nat) x,xs[j]?=some x→w.cell? ⟨bk,o+j,none⟩=some (.string x)) (hbk:bk < w.heap.size) (hN:xs.length≤140737488355328) (hcap:xs.length≤c) (hlen:(Lib.join (xs.map (·.data.toList)) sep.data.toList).length≤140737488355328):
  Calls Tryz.prog 332 #[.slice (some ⟨bk,o,none⟩) xs.length c,.string sep] w fun e w'=>e=.returned (.string ⟨(Lib.join (xs.map (·.data.toList)) sep.data.toList).toArray⟩)∧Below w.heap.size w w':=Any.strings_Join Tryz.lays156 Tryz.Builder_Extra_156 bk o c xs sep w hcells hbk hN hcap hlen
def Tryz.laysM173_ren:Go.Shelf.Ren:=⟨fun | 173=>333 | 246=>353 | 283=>366 | 284=>367 | 285=>368 | 286=>369 | 129=>220 | 317=>376 | 318=>377 | 319=>378 | 320=>379 | 337=>382 | 338=>383 | n=>n,fun | 2=>2 | 3=>3 | 9=>9 | 4=>4 | 171=>377 | 0=>0 | 53=>268 | 37=>23 | 5=>5 | 173=>379 | 212=>391 | 51=>56 | 20=>20 | 213=>392 | 46=>219 | 232=>397 | 233=>398 | n=>n,fun | 17=>5 | 18=>6 | 19=>7 | n=>n⟩
theorem Tryz.laysM173:Go.Proofs.LaysM.n173 Tryz.prog Tryz.laysM173_ren:={
 mixed:=by kernel_rfl
 f129:=Tryz.func220.trans ck
 f173:=Tryz.func333.trans ck
 f246:=Tryz.func353.trans ck
 f283:=Tryz.func366.trans ck
 f284:=Tryz.func367.trans ck
 f285:=Tryz.func368.trans ck
 f286:=Tryz.func369.trans ck
 f317:=Tryz.func376.trans ck
 f318:=Tryz.func377.trans ck
 f319:=Tryz.func378.trans ck
 f320:=Tryz.func379.trans ck
 f337:=Tryz.func382.trans ck
 f338:=Tryz.func383.trans ck
 t0:=Tryz.underlying0
 a0:=Tryz.isAgg0
 z0:=Tryz.sizeOf0
 v0:=Tryz.zeroValue0
 t2:=Tryz.underlying2
 a2:=Tryz.isAgg2
 z2:=Tryz.sizeOf2
 v2:=Tryz.zeroValue2
 t3:=Tryz.underlying3
 a3:=Tryz.isAgg3
 z3:=Tryz.sizeOf3
 v3:=Tryz.zeroValue3
 t4:=Tryz.underlying4
 a4:=Tryz.isAgg4
 z4:=Tryz.sizeOf4
 v4:=Tryz.zeroValue4
 t5:=Tryz.underlying5
 a5:=Tryz.isAgg5
 z5:=Tryz.sizeOf5
 v5:=Tryz.zeroValue5
 t9:=Tryz.underlying9
 a9:=Tryz.isAgg9
 z9:=Tryz.sizeOf9
 v9:=Tryz.zeroValue9
 t20:=Tryz.underlying20
 a20:=Tryz.isAgg20
 z20:=Tryz.sizeOf20
 v20:=Tryz.zeroValue20
 t37:=Tryz.underlying23
 a37:=Tryz.isAgg23
 z37:=Tryz.sizeOf23
 v37:=Tryz.zeroValue23
 t46:=Tryz.underlying219
 a46:=Tryz.isAgg219
 z46:=Tryz.sizeOf219
 v46:=Tryz.zeroValue219
 t51:=Tryz.underlying56
 a51:=Tryz.isAgg56
 z51:=Tryz.sizeOf56
 v51:=Tryz.zeroValue56
 t53:=Tryz.underlying268
 a53:=Tryz.isAgg268
 z53:=Tryz.sizeOf268
 v53:=Tryz.zeroValue268
 t171:=Tryz.underlying377
 a171:=Tryz.isAgg377
 z171:=Tryz.sizeOf377
 v171:=Tryz.zeroValue377
 t173:=Tryz.underlying379
 a173:=Tryz.isAgg379
 z173:=Tryz.sizeOf379
 v173:=Tryz.zeroValue379
 t212:=Tryz.underlying391
 a212:=Tryz.isAgg391
 z212:=Tryz.sizeOf391
 v212:=Tryz.zeroValue391
 t213:=Tryz.underlying392
 a213:=Tryz.isAgg392
 z213:=Tryz.sizeOf392
 t232:=Tryz.underlying397
 a232:=Tryz.isAgg397
 z232:=Tryz.sizeOf397
 v232:=Tryz.zeroValue397
 t233:=Tryz.underlying398
 a233:=Tryz.isAgg398
 z233:=Tryz.sizeOf398
 v233:=Tryz.zeroValue398
 g17:=by kernel_rfl
 g18:=by kernel_rfl
 g19:=by kernel_rfl
 i0:=by kernel_rfl
 i2:=by kernel_rfl
 i3:=by kernel_rfl
 i4:=by kernel_rfl
 i5:=by kernel_rfl
 i9:=by kernel_rfl
 i20:=by kernel_rfl
 i37:=by kernel_rfl
 i46:=by kernel_rfl
 i51:=by kernel_rfl
 i53:=by kernel_rfl
 i171:=by kernel_rfl
 i173:=by kernel_rfl
 i212:=by kernel_rfl
 i232:=by kernel_rfl
 i233:=by kernel_rfl
 m17:=by kernel_rfl
 m18:=by kernel_rfl
 m19:=by kernel_rfl }
open Go.RowKit Go.Sort Go.Lib in
theorem Tryz.strconv_FormatInt_10 (n:Int) (h0:-9223372036854775808≤n) (h1:n≤9223372036854775807) (w:World) (htab:Lib.TabIs Tryz.prog w "internal/strconv.uint64pow10" .u64 Lib.pow10Tab):
  Calls Tryz.prog 333 #[.int .i64 n,.int .i64 10] w fun e w'=>e=.returned (.string ⟨(Lib.itoa n).toArray⟩)∧∃ k os,w'=grow (w.drewN k) os:=Any.strconv_FormatInt_10 Tryz.laysM173 n h0 h1 w htab
def Tryz.lays144_ren:Go.Shelf.Ren:=⟨fun | 144=>268 | 143=>306 | 219=>337 | 217=>356 | 225=>357 | 224=>358 | 267=>359 | 266=>371 | 314=>372 | n=>n,fun | 9=>9 | 4=>4 | 3=>3 | 5=>5 | 46=>219 | 146=>381 | 51=>56 | n=>n,fun | 1=>0 | n=>n⟩
theorem Tryz.lays144:Go.Proofs.Lays.n144 Tryz.prog Tryz.lays144_ren:={
 mixed:=by kernel_rfl
 f143:=Tryz.func306.trans ck
 f144:=Tryz.func268.trans ck
 f217:=Tryz.func356.trans ck
 f219:=Tryz.func337.trans ck
 f224:=Tryz.func358.trans ck
 f225:=Tryz.func357.trans ck
 f266:=Tryz.func371.trans ck
 f267:=Tryz.func359.trans ck
 f314:=Tryz.func372.trans ck
 t3:=Tryz.underlying3
 a3:=Tryz.isAgg3
 z3:=Tryz.sizeOf3
 v3:=Tryz.zeroValue3
 t4:=Tryz.underlying4
 a4:=Tryz.isAgg4
 z4:=Tryz.sizeOf4
 v4:=Tryz.zeroValue4
 t5:=Tryz.underlying5
 a5:=Tryz.isAgg5
 z5:=Tryz.sizeOf5
 v5:=Tryz.zeroValue5
 t9:=Tryz.underlying9
 a9:=Tryz.isAgg9
 z9:=Tryz.sizeOf9
 v9:=Tryz.zeroValue9
 t46:=Tryz.underlying219
 a46:=Tryz.isAgg219
 z46:=Tryz.sizeOf219
 v46:=Tryz.zeroValue219
 t51:=Tryz.underlying56
 a51:=Tryz.isAgg56
 z51:=Tryz.sizeOf56
 v51:=Tryz.zeroValue56
 t146:=Tryz.underlying381
 a146:=Tryz.isAgg381
 z146:=Tryz.sizeOf381
 v146:=Tryz.zeroValue381
 g1:=by kernel_rfl }
open Go.RowKit Go.Lib in
theorem Tryz.strings_Contains_one (s:ByteArray) (c:UInt8) (w:World):
  Calls Tryz.prog 268 #[.string s,.string ⟨#[c]⟩] w fun e w'=>e=.returned (.bool (decide (0≤Lib.indexByte s.data.toList c)))∧w'=w:=Any.strings_Contains_one Tryz.lays144 s c w
def Tryz.laysGw15_ren:Go.Shelf.Ren:=⟨fun | 15=>99 | 20=>164 | n=>n,fun | 9=>9 | 23=>170 | 3=>3 | 4=>4 | 0=>0 | 21=>21 | n=>n,fun | n=>n⟩
theorem Tryz.laysGw15:Go.Proofs.LaysGw.n15 Tryz.prog Tryz.laysGw15_ren:={
 mixed:=by kernel_rfl
 f15:=Tryz.func99.trans ck
 f20:=Tryz.func164.trans ck
 t0:=Tryz.underlying0
 a0:=Tryz.isAgg0
 z0:=Tryz.sizeOf0
 v0:=Tryz.zeroValue0
 i0:=by kernel_rfl
 t3:=Tryz.underlying3
 a3:=Tryz.isAgg3
 z3:=Tryz.sizeOf3
 v3:=Tryz.zeroValue3
 i3:=by kernel_rfl
 t4:=Tryz.underlying4
 a4:=Tryz.isAgg4
 z4:=Tryz.sizeOf4
 v4:=Tryz.zeroValue4
 i4:=by kernel_rfl
 t9:=Tryz.underlying9
 a9:=Tryz.isAgg9
 z9:=Tryz.sizeOf9
 v9:=Tryz.zeroValue9
 i9:=by kernel_rfl
 t21:=Tryz.underlying21
 a21:=Tryz.isAgg21
 z21:=Tryz.sizeOf21
 v21:=Tryz.zeroValue21
 i21:=by kernel_rfl
 t23:=Tryz.underlying170
 a23:=Tryz.isAgg170
 z23:=Tryz.sizeOf170
 v23:=Tryz.zeroValue170
 i23:=by kernel_rfl }
def Tryz.lays155_ren:Go.Shelf.Ren:=⟨fun | 155=>334 | 154=>354 | 138=>370 | 165=>324 | 143=>306 | 166=>325 | 197=>348 | 169=>327 | 195=>380 | 218=>381 | 240=>346 | 241=>347 | 219=>337 | 260=>363 | 276=>361 | 277=>362 | 217=>356 | 225=>357 | 224=>358 | 267=>359 | 266=>371 | 314=>372 | n=>n,fun | 9=>9 | 3=>3 | 4=>4 | 72=>337 | 0=>0 | 76=>341 | 105=>360 | 21=>21 | 5=>5 | 70=>335 | 20=>20 | 37=>23 | 75=>340 | 127=>359 | 164=>369 | 46=>219 | 119=>383 | 139=>386 | 138=>385 | 146=>381 | 51=>56 | 80=>142 | n=>n,fun | 1=>0 | 3=>3 | 4=>4 | n=>n⟩
theorem Tryz.lays155:Go.Proofs.Lays.n155 Tryz.prog Tryz.lays155_ren:={
 mixed:=by kernel_rfl
 f138:=Tryz.func370.trans ck
 f143:=Tryz.func306.trans ck
 f154:=Tryz.func354.trans ck
 f155:=Tryz.func334.trans ck
 f165:=Tryz.func324.trans ck
 f166:=Tryz.func325.trans ck
 f169:=Tryz.func327.trans ck
 f195:=Tryz.func380.trans ck
 f197:=Tryz.func348.trans ck
 f217:=Tryz.func356.trans ck
 f218:=Tryz.func381.trans ck
 f219:=Tryz.func337.trans ck
 f224:=Tryz.func358.trans ck
 f225:=Tryz.func357.trans ck
 f240:=Tryz.func346.trans ck
 f241:=Tryz.func347.trans ck
 f260:=Tryz.func363.trans ck
 f266:=Tryz.func371.trans ck
 f267:=Tryz.func359.trans ck
 f276:=Tryz.func361.trans ck
 f277:=Tryz.func362.trans ck
 f314:=Tryz.func372.trans ck
 t0:=Tryz.underlying0
 a0:=Tryz.isAgg0
 z0:=Tryz.sizeOf0
 v0:=Tryz.zeroValue0
 t3:=Tryz.underlying3
 a3:=Tryz.isAgg3
 z3:=Tryz.sizeOf3
 v3:=Tryz.zeroValue3
 t4:=Tryz.underlying4
 a4:=Tryz.isAgg4
 z4:=Tryz.sizeOf4
 v4:=Tryz.zeroValue4
 t5:=Tryz.underlying5
 a5:=Tryz.isAgg5
 z5:=Tryz.sizeOf5
 v5:=Tryz.zeroValue5
 t9:=Tryz.underlying9
 a9:=Tryz.isAgg9
 z9:=Tryz.sizeOf9
 v9:=Tryz.zeroValue9
 t20:=Tryz.underlying20
 a20:=Tryz.isAgg20
 z20:=Tryz.sizeOf20
 v20:=Tryz.zeroValue20
 t21:=Tryz.underlying21
 a21:=Tryz.isAgg21
 z21:=Tryz.sizeOf21
 v21:=Tryz.zeroValue21
 t37:=Tryz.underlying23
 a37:=Tryz.isAgg23
 z37:=Tryz.sizeOf23
 v37:=Tryz.zeroValue23
 t46:=Tryz.underlying219
 a46:=Tryz.isAgg219
 z46:=Tryz.sizeOf219
 v46:=Tryz.zeroValue219
 t51:=Tryz.underlying56
 a51:=Tryz.isAgg56
 z51:=Tryz.sizeOf56
 v51:=Tryz.zeroValue56
 t70:=Tryz.underlying335
 a70:=Tryz.isAgg335
 z70:=Tryz.sizeOf335
 v70:=Tryz.zeroValue335
 t72:=Tryz.underlying337
 a72:=Tryz.isAgg337
 z72:=Tryz.sizeOf337
 v72:=Tryz.zeroValue337
 t75:=Tryz.underlying340
 a75:=Tryz.isAgg340
 z75:=Tryz.sizeOf340
 v75:=Tryz.zeroValue340
 t76:=Tryz.underlying341
 a76:=Tryz.isAgg341
 z76:=Tryz.sizeOf341
 v76:=Tryz.zeroValue341
 t105:=Tryz.underlying360
 a105:=Tryz.isAgg360
 z105:=Tryz.sizeOf360
 v105:=Tryz.zeroValue360
 t119:=Tryz.underlying383
 a119:=Tryz.isAgg383
 z119:=Tryz.sizeOf383
 t127:=Tryz.underlying359
 a127:=Tryz.isAgg359
 z127:=Tryz.sizeOf359
 v127:=Tryz.zeroValue359
 t138:=Tryz.underlying385
 a138:=Tryz.isAgg385
 z138:=Tryz.sizeOf385
 v138:=Tryz.zeroValue385
 t139:=Tryz.underlying386
 a139:=Tryz.isAgg386
 z139:=Tryz.sizeOf386
 v139:=Tryz.zeroValue386
 t146:=Tryz.underlying381
 a146:=Tryz.isAgg381
 z146:=Tryz.sizeOf381
 v146:=Tryz.zeroValue381
 t164:=Tryz.underlying369
 a164:=Tryz.isAgg369
 z164:=Tryz.sizeOf369
 v164:=Tryz.zeroValue369
 g1:=by kernel_rfl
 g3:=by kernel_rfl
 g4:=by kernel_rfl }
theorem Tryz.Builder_Extra_155:Builder.Extra Tryz.prog Tryz.lays155_ren:={
 sizeBuilder:=by kernel_rfl
 liesBuilder:=by kernel_rfl
 t5:=Tryz.underlying5
 a5:=Tryz.isAgg5
 z5:=Tryz.sizeOf5
 v5:=Tryz.zeroValue5
 infoByte:=by kernel_rfl
 cellsByte:=by kernel_rfl
 sizeByte:=by kernel_rfl
 neB5:=by decide }
open Go.RowKit Go.Lib in
theorem Tryz.strings_ReplaceAll (s old new:ByteArray) (m:Int) (w:World) (hs:s.size < 4294967281) (hm:w.cell? ⟨0,0,none⟩=some (.int .i64 m)) (h1:1≤old.size) (hlen:s.size+Lib.countB s old * new.size≤140737488355328):
  Calls Tryz.prog 334 #[.string s,.string old,.string new] w fun e w'=>
   e=.returned (.string ⟨(Lib.replaceAll s.data.toList old.data.toList new.data.toList).toArray⟩)∧Below w.heap.size w w':=Any.strings_ReplaceAll Tryz.lays155 Tryz.Builder_Extra_155 s old new m w hs hm h1 hlen
open Go.RowKit Go.Lib in
theorem Tryz.strings_IndexFunc_grows (g:Nat) (lb:Array Value) (eg:∀ args w,(callFunc g args).run Tryz.prog w=.ok (.enter g args) w) (p:Nat→Bool) (s:ByteArray) (w:World) (hp:PredGrows Tryz.prog g lb p w):
  Calls Tryz.prog 99 #[.string s,.func (.func g) #[] lb] w fun e w'=>e=.returned (.int .i64 (Lib.idxFunc p true s))∧Below w.heap.size w w':=Any.strings_IndexFunc_grows Tryz.laysGw15 g lb eg p s w hp
end Go.Proofs
