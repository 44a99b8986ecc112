/- The library's contracts at this program (written by the kit's own tool). -/
import Derived.Shelf.Strings.Builder1
import Derived.Shelf.Strings.Builder2
import Derived.Shelf.Strings.OnBuilder
import Derived.Shelf.Small.Utf8
import Derived.Shelf.Small.Wraps
import Derived.Shelf.Strconv.Itoa0
import Derived.Shelf.Strconv.Itoa1
import Derived.Shelf.LaysM
import Derived.Shelf.Strconv.Itoa2
import Derived.Shelf.Strconv.Itoa3
import Derived.Shelf.Strconv.Itoa4
import Derived.Shelf.Strings.Search1
import Derived.Shelf.Strings.Search2
import Derived.Shelf.Strings.Search3
import Derived.Shelf.Strings.Count
import Derived.Shelf.Strings.Shaped
import Derived.Shelf.GgClosure.StringsIndexFunc
import Derived.Ground.GgwProg
import Derived.Shelf.GgClosure.StringsIndexFuncTop
import Derived.Shelf.Strings.Split
import Derived.Shelf.Strings.Replace
import Derived.Shelf.Strings.SplitShaped
import Derived.Shelf.Unicode.Latin
import Derived.Shelf.Unicode.DecodeSlow
import Derived.Shelf.Unicode.DecodeAny
import Derived.Shelf.Unicode.CaseLookup
import Derived.Shelf.Unicode.CaseConvert
import Derived.Shelf.Unicode.CaseTo
import Derived.Shelf.Unicode.CaseLaid
import Derived.Shelf.Strings.FuncGrows
import Derived.Test.YtfgnbipebgibeaaGreatDoorProg
namespace Go.Proofs
open Go.Shelf
def Tryz.lays158_ren:Go.Shelf.Ren:=⟨fun | 158=>161 | 165=>204 | 166=>205 | 167=>206 | 169=>207 | 230=>208 | 203=>209 | 240=>242 | 241=>243 | 197=>244 | 118=>245 | 168=>246 | 270=>247 | 262=>248 | 276=>267 | 277=>268 | 260=>269 | 242=>270 | 313=>271 | 278=>284 | 274=>285 | 275=>286 | n=>n,fun | 9=>9 | 4=>4 | 3=>3 | 5=>5 | 72=>223 | 0=>0 | 76=>227 | 75=>226 | 107=>231 | 70=>220 | 20=>20 | 37=>221 | 127=>256 | 21=>21 | 105=>257 | 164=>270 | 162=>276 | 203=>274 | 119=>288 | 46=>287 | 139=>291 | 138=>290 | 51=>292 | 160=>293 | 208=>305 | 206=>303 | 80=>153 | n=>n,fun | 13=>1 | 3=>3 | 4=>4 | n=>n⟩
theorem Tryz.lays158:Go.Proofs.Lays.n158 Tryz.prog Tryz.lays158_ren:={
 mixed:=by kernel_rfl
 f118:=Tryz.func245.trans (congrArg some (by kernel_rfl))
 f158:=Tryz.func161.trans (congrArg some (by kernel_rfl))
 f165:=Tryz.func204.trans (congrArg some (by kernel_rfl))
 f166:=Tryz.func205.trans (congrArg some (by kernel_rfl))
 f167:=Tryz.func206.trans (congrArg some (by kernel_rfl))
 f168:=Tryz.func246.trans (congrArg some (by kernel_rfl))
 f169:=Tryz.func207.trans (congrArg some (by kernel_rfl))
 f197:=Tryz.func244.trans (congrArg some (by kernel_rfl))
 f203:=Tryz.func209.trans (congrArg some (by kernel_rfl))
 f230:=Tryz.func208.trans (congrArg some (by kernel_rfl))
 f240:=Tryz.func242.trans (congrArg some (by kernel_rfl))
 f241:=Tryz.func243.trans (congrArg some (by kernel_rfl))
 f242:=Tryz.func270.trans (congrArg some (by kernel_rfl))
 f260:=Tryz.func269.trans (congrArg some (by kernel_rfl))
 f262:=Tryz.func248.trans (congrArg some (by kernel_rfl))
 f270:=Tryz.func247.trans (congrArg some (by kernel_rfl))
 f274:=Tryz.func285.trans (congrArg some (by kernel_rfl))
 f275:=Tryz.func286.trans (congrArg some (by kernel_rfl))
 f276:=Tryz.func267.trans (congrArg some (by kernel_rfl))
 f277:=Tryz.func268.trans (congrArg some (by kernel_rfl))
 f278:=Tryz.func284.trans (congrArg some (by kernel_rfl))
 f313:=Tryz.func271.trans (congrArg some (by kernel_rfl))
 t0:=Tryz.underlying0
 a0:=Tryz.isAgg0
 z0:=Tryz.sizeOf0
 v0:=Tryz.zeroValue0
 t3:=Tryz.underlying3
 a3:=Tryz.isAgg3
 z3:=Tryz.sizeOf3
 v3:=Tryz.zeroValue3
 t4:=Tryz.underlying4
 a4:=Tryz.isAgg4
 z4:=Tryz.sizeOf4
 v4:=Tryz.zeroValue4
 t5:=Tryz.underlying5
 a5:=Tryz.isAgg5
 z5:=Tryz.sizeOf5
 v5:=Tryz.zeroValue5
 t9:=Tryz.underlying9
 a9:=Tryz.isAgg9
 z9:=Tryz.sizeOf9
 v9:=Tryz.zeroValue9
 t20:=Tryz.underlying20
 a20:=Tryz.isAgg20
 z20:=Tryz.sizeOf20
 v20:=Tryz.zeroValue20
 t21:=Tryz.underlying21
 a21:=Tryz.isAgg21
 z21:=Tryz.sizeOf21
 v21:=Tryz.zeroValue21
 t37:=Tryz.underlying221
 a37:=Tryz.isAgg221
 z37:=Tryz.sizeOf221
 v37:=Tryz.zeroValue221
 t46:=Tryz.underlying287
 a46:=Tryz.isAgg287
 z46:=Tryz.sizeOf287
 v46:=Tryz.zeroValue287
 t51:=Tryz.underlying292
 a51:=Tryz.isAgg292
 z51:=Tryz.sizeOf292
 v51:=Tryz.zeroValue292
 t70:=Tryz.underlying220
 a70:=Tryz.isAgg220
 z70:=Tryz.sizeOf220
 v70:=Tryz.zeroValue220
 t72:=Tryz.underlying223
 a72:=Tryz.isAgg223
 z72:=Tryz.sizeOf223
 v72:=Tryz.zeroValue223
 t75:=Tryz.underlying226
 a75:=Tryz.isAgg226
 z75:=Tryz.sizeOf226
 v75:=Tryz.zeroValue226
 t76:=Tryz.underlying227
 a76:=Tryz.isAgg227
 z76:=Tryz.sizeOf227
 v76:=Tryz.zeroValue227
 t105:=Tryz.underlying257
 a105:=Tryz.isAgg257
 z105:=Tryz.sizeOf257
 v105:=Tryz.zeroValue257
 t107:=Tryz.underlying231
 a107:=Tryz.isAgg231
 z107:=Tryz.sizeOf231
 v107:=Tryz.zeroValue231
 t119:=Tryz.underlying288
 a119:=Tryz.isAgg288
 z119:=Tryz.sizeOf288
 t127:=Tryz.underlying256
 a127:=Tryz.isAgg256
 z127:=Tryz.sizeOf256
 v127:=Tryz.zeroValue256
 t138:=Tryz.underlying290
 a138:=Tryz.isAgg290
 z138:=Tryz.sizeOf290
 v138:=Tryz.zeroValue290
 t139:=Tryz.underlying291
 a139:=Tryz.isAgg291
 z139:=Tryz.sizeOf291
 v139:=Tryz.zeroValue291
 t160:=Tryz.underlying293
 a160:=Tryz.isAgg293
 z160:=Tryz.sizeOf293
 v160:=Tryz.zeroValue293
 t162:=Tryz.underlying276
 a162:=Tryz.isAgg276
 z162:=Tryz.sizeOf276
 v162:=Tryz.zeroValue276
 t164:=Tryz.underlying270
 a164:=Tryz.isAgg270
 z164:=Tryz.sizeOf270
 v164:=Tryz.zeroValue270
 t203:=Tryz.underlying274
 a203:=Tryz.isAgg274
 z203:=Tryz.sizeOf274
 v203:=Tryz.zeroValue274
 t206:=Tryz.underlying303
 a206:=Tryz.isAgg303
 z206:=Tryz.sizeOf303
 v206:=Tryz.zeroValue303
 t208:=Tryz.underlying305
 a208:=Tryz.isAgg305
 z208:=Tryz.sizeOf305
 v208:=Tryz.zeroValue305
 g3:=by kernel_rfl
 g4:=by kernel_rfl
 g13:=by kernel_rfl }
theorem Tryz.Builder_Extra_158:Builder.Extra Tryz.prog Tryz.lays158_ren:={
 sizeBuilder:=by kernel_rfl
 liesBuilder:=by kernel_rfl
 t5:=Tryz.underlying5
 a5:=Tryz.isAgg5
 z5:=Tryz.sizeOf5
 v5:=Tryz.zeroValue5
 infoByte:=by kernel_rfl
 cellsByte:=by kernel_rfl
 sizeByte:=by kernel_rfl
 neB5:=by decide }
open Go.RowKit in
theorem Tryz.strings_ToUpper_ascii (s:ByteArray) (w:World) (hs:s.size≤140737488355328) (hascii:∀ (j:Nat) (b:UInt8),s.data.toList[j]?=some b→b.toNat < 128):
  Calls Tryz.prog 161 #[.string s] w fun e w'=>e=.returned (.string ⟨(Lib.toUpperA s.data.toList).toArray⟩)∧Below w.heap.size w w':=Any.strings_ToUpper_ascii Tryz.lays158 Tryz.Builder_Extra_158 s w hs hascii
def Tryz.lays156_ren:Go.Shelf.Ren:=⟨fun | 156=>212 | 165=>204 | 166=>205 | 169=>207 | 240=>242 | 241=>243 | 276=>267 | 277=>268 | n=>n,fun | 31=>23 | 9=>9 | 3=>3 | 4=>4 | 0=>0 | 20=>20 | 72=>223 | 76=>227 | 70=>220 | 37=>221 | 75=>226 | 127=>256 | 164=>270 | 5=>5 | 80=>153 | n=>n,fun | n=>n⟩
theorem Tryz.lays156:Go.Proofs.Lays.n156 Tryz.prog Tryz.lays156_ren:={
 mixed:=by kernel_rfl
 f156:=Tryz.func212.trans (congrArg some (by kernel_rfl))
 f165:=Tryz.func204.trans (congrArg some (by kernel_rfl))
 f166:=Tryz.func205.trans (congrArg some (by kernel_rfl))
 f169:=Tryz.func207.trans (congrArg some (by kernel_rfl))
 f240:=Tryz.func242.trans (congrArg some (by kernel_rfl))
 f241:=Tryz.func243.trans (congrArg some (by kernel_rfl))
 f276:=Tryz.func267.trans (congrArg some (by kernel_rfl))
 f277:=Tryz.func268.trans (congrArg some (by kernel_rfl))
 t0:=Tryz.underlying0
 a0:=Tryz.isAgg0
 z0:=Tryz.sizeOf0
 v0:=Tryz.zeroValue0
 t3:=Tryz.underlying3
 a3:=Tryz.isAgg3
 z3:=Tryz.sizeOf3
 v3:=Tryz.zeroValue3
 t4:=Tryz.underlying4
 a4:=Tryz.isAgg4
 z4:=Tryz.sizeOf4
 v4:=Tryz.zeroValue4
 t9:=Tryz.underlying9
 a9:=Tryz.isAgg9
 z9:=Tryz.sizeOf9
 v9:=Tryz.zeroValue9
 t20:=Tryz.underlying20
 a20:=Tryz.isAgg20
 z20:=Tryz.sizeOf20
 v20:=Tryz.zeroValue20
 t31:=Tryz.underlying23
 a31:=Tryz.isAgg23
 z31:=Tryz.sizeOf23
 v31:=Tryz.zeroValue23
 t37:=Tryz.underlying221
 a37:=Tryz.isAgg221
 z37:=Tryz.sizeOf221
 v37:=Tryz.zeroValue221
 t70:=Tryz.underlying220
 a70:=Tryz.isAgg220
 z70:=Tryz.sizeOf220
 v70:=Tryz.zeroValue220
 t72:=Tryz.underlying223
 a72:=Tryz.isAgg223
 z72:=Tryz.sizeOf223
 v72:=Tryz.zeroValue223
 t75:=Tryz.underlying226
 a75:=Tryz.isAgg226
 z75:=Tryz.sizeOf226
 v75:=Tryz.zeroValue226
 t76:=Tryz.underlying227
 a76:=Tryz.isAgg227
 z76:=Tryz.sizeOf227
 v76:=Tryz.zeroValue227
 t127:=Tryz.underlying256
 a127:=Tryz.isAgg256
 z127:=Tryz.sizeOf256
 v127:=Tryz.zeroValue256
 t164:=Tryz.underlying270
 a164:=Tryz.isAgg270
 z164:=Tryz.sizeOf270
 v164:=Tryz.zeroValue270 }
theorem Tryz.Builder_Extra_156:Builder.Extra Tryz.prog Tryz.lays156_ren:={
 sizeBuilder:=by kernel_rfl
 liesBuilder:=by kernel_rfl
 t5:=Tryz.underlying5
 a5:=Tryz.isAgg5
 z5:=Tryz.sizeOf5
 v5:=Tryz.zeroValue5
 infoByte:=by kernel_rfl
 cellsByte:=by kernel_rfl
 sizeByte:=by kernel_rfl
 neB5:=by decide }
open Go.RowKit in
theorem Tryz.strings_Join_none (a:Option Addr) (c:Nat) (sep:ByteArray) (w:World):
  Calls Tryz.prog 212 #[.slice a 0 c,.string sep] w fun e w'=>e=.returned (.string ⟨#[]⟩)∧w'=w:=Any.strings_Join_none Tryz.lays156 Tryz.Builder_Extra_156 a c sep w
open Go.RowKit in
theorem Tryz.strings_Join (bk o c:Nat) (xs:List ByteArray) (sep:ByteArray) (w:World) (hcells:∀ (j:Nat) x,xs[j]?=some x→w.cell? ⟨bk,o+j,none⟩=some (.string x)) (hbk:bk < w.heap.size) (hN:xs.length≤140737488355328) (hcap:xs.length≤c) (hlen:(Lib.join (xs.map (·.data.toList)) sep.data.toList).length≤140737488355328):
  Calls Tryz.prog 212 #[.slice (some ⟨bk,o,none⟩) xs.length c,.string sep] w fun e w'=>e=.returned (.string ⟨(Lib.join (xs.map (·.data.toList)) sep.data.toList).toArray⟩)∧Below w.heap.size w w':=Any.strings_Join Tryz.lays156 Tryz.Builder_Extra_156 bk o c xs sep w hcells hbk hN hcap hlen
def Tryz.laysM173_ren:Go.Shelf.Ren:=⟨fun | 173=>213 | 246=>249 | 283=>272 | 284=>273 | 285=>274 | 286=>275 | 129=>288 | 317=>287 | 318=>289 | 319=>290 | 320=>291 | 337=>296 | 338=>297 | n=>n,fun | 2=>2 | 3=>3 | 9=>9 | 4=>4 | 171=>278 | 0=>0 | 53=>279 | 37=>221 | 5=>5 | 173=>282 | 212=>297 | 51=>292 | 20=>20 | 213=>298 | 46=>287 | 232=>307 | 233=>308 | n=>n,fun | 17=>5 | 18=>6 | 19=>7 | n=>n⟩
theorem Tryz.laysM173:Go.Proofs.LaysM.n173 Tryz.prog Tryz.laysM173_ren:={
 mixed:=by kernel_rfl
 f129:=Tryz.func288.trans (congrArg some (by kernel_rfl))
 f173:=Tryz.func213.trans (congrArg some (by kernel_rfl))
 f246:=Tryz.func249.trans (congrArg some (by kernel_rfl))
 f283:=Tryz.func272.trans (congrArg some (by kernel_rfl))
 f284:=Tryz.func273.trans (congrArg some (by kernel_rfl))
 f285:=Tryz.func274.trans (congrArg some (by kernel_rfl))
 f286:=Tryz.func275.trans (congrArg some (by kernel_rfl))
 f317:=Tryz.func287.trans (congrArg some (by kernel_rfl))
 f318:=Tryz.func289.trans (congrArg some (by kernel_rfl))
 f319:=Tryz.func290.trans (congrArg some (by kernel_rfl))
 f320:=Tryz.func291.trans (congrArg some (by kernel_rfl))
 f337:=Tryz.func296.trans (congrArg some (by kernel_rfl))
 f338:=Tryz.func297.trans (congrArg some (by kernel_rfl))
 t0:=Tryz.underlying0
 a0:=Tryz.isAgg0
 z0:=Tryz.sizeOf0
 v0:=Tryz.zeroValue0
 t2:=Tryz.underlying2
 a2:=Tryz.isAgg2
 z2:=Tryz.sizeOf2
 v2:=Tryz.zeroValue2
 t3:=Tryz.underlying3
 a3:=Tryz.isAgg3
 z3:=Tryz.sizeOf3
 v3:=Tryz.zeroValue3
 t4:=Tryz.underlying4
 a4:=Tryz.isAgg4
 z4:=Tryz.sizeOf4
 v4:=Tryz.zeroValue4
 t5:=Tryz.underlying5
 a5:=Tryz.isAgg5
 z5:=Tryz.sizeOf5
 v5:=Tryz.zeroValue5
 t9:=Tryz.underlying9
 a9:=Tryz.isAgg9
 z9:=Tryz.sizeOf9
 v9:=Tryz.zeroValue9
 t20:=Tryz.underlying20
 a20:=Tryz.isAgg20
 z20:=Tryz.sizeOf20
 v20:=Tryz.zeroValue20
 t37:=Tryz.underlying221
 a37:=Tryz.isAgg221
 z37:=Tryz.sizeOf221
 v37:=Tryz.zeroValue221
 t46:=Tryz.underlying287
 a46:=Tryz.isAgg287
 z46:=Tryz.sizeOf287
 v46:=Tryz.zeroValue287
 t51:=Tryz.underlying292
 a51:=Tryz.isAgg292
 z51:=Tryz.sizeOf292
 v51:=Tryz.zeroValue292
 t53:=Tryz.underlying279
 a53:=Tryz.isAgg279
 z53:=Tryz.sizeOf279
 v53:=Tryz.zeroValue279
 t171:=Tryz.underlying278
 a171:=Tryz.isAgg278
 z171:=Tryz.sizeOf278
 v171:=Tryz.zeroValue278
 t173:=Tryz.underlying282
 a173:=Tryz.isAgg282
 z173:=Tryz.sizeOf282
 v173:=Tryz.zeroValue282
 t212:=Tryz.underlying297
 a212:=Tryz.isAgg297
 z212:=Tryz.sizeOf297
 v212:=Tryz.zeroValue297
 t213:=Tryz.underlying298
 a213:=Tryz.isAgg298
 z213:=Tryz.sizeOf298
 t232:=Tryz.underlying307
 a232:=Tryz.isAgg307
 z232:=Tryz.sizeOf307
 v232:=Tryz.zeroValue307
 t233:=Tryz.underlying308
 a233:=Tryz.isAgg308
 z233:=Tryz.sizeOf308
 v233:=Tryz.zeroValue308
 g17:=by kernel_rfl
 g18:=by kernel_rfl
 g19:=by kernel_rfl
 i0:=by kernel_rfl
 i2:=by kernel_rfl
 i3:=by kernel_rfl
 i4:=by kernel_rfl
 i5:=by kernel_rfl
 i9:=by kernel_rfl
 i20:=by kernel_rfl
 i37:=by kernel_rfl
 i46:=by kernel_rfl
 i51:=by kernel_rfl
 i53:=by kernel_rfl
 i171:=by kernel_rfl
 i173:=by kernel_rfl
 i212:=by kernel_rfl
 i232:=by kernel_rfl
 i233:=by kernel_rfl
 m17:=by kernel_rfl
 m18:=by kernel_rfl
 m19:=by kernel_rfl }
open Go.RowKit Go.Sort Go.Lib in
theorem Tryz.strconv_FormatInt_10 (n:Int) (h0:-9223372036854775808≤n) (h1:n≤9223372036854775807) (w:World) (htab:Lib.TabIs Tryz.prog w "internal/strconv.uint64pow10" .u64 Lib.pow10Tab):
  Calls Tryz.prog 213 #[.int .i64 n,.int .i64 10] w fun e w'=>e=.returned (.string ⟨(Lib.itoa n).toArray⟩)∧∃ k os,w'=grow (w.drewN k) os:=Any.strconv_FormatInt_10 Tryz.laysM173 n h0 h1 w htab
def Tryz.lays144_ren:Go.Shelf.Ren:=⟨fun | 144=>186 | 143=>228 | 219=>263 | 217=>280 | 225=>281 | 224=>282 | 267=>283 | 266=>294 | 314=>295 | n=>n,fun | 9=>9 | 4=>4 | 3=>3 | 5=>5 | 46=>287 | 146=>300 | 51=>292 | n=>n,fun | 1=>2 | n=>n⟩
theorem Tryz.lays144:Go.Proofs.Lays.n144 Tryz.prog Tryz.lays144_ren:={
 mixed:=by kernel_rfl
 f143:=Tryz.func228.trans (congrArg some (by kernel_rfl))
 f144:=Tryz.func186.trans (congrArg some (by kernel_rfl))
 f217:=Tryz.func280.trans (congrArg some (by kernel_rfl))
 f219:=Tryz.func263.trans (congrArg some (by kernel_rfl))
 f224:=Tryz.func282.trans (congrArg some (by kernel_rfl))
 f225:=Tryz.func281.trans (congrArg some (by kernel_rfl))
 f266:=Tryz.func294.trans (congrArg some (by kernel_rfl))
 f267:=Tryz.func283.trans (congrArg some (by kernel_rfl))
 f314:=Tryz.func295.trans (congrArg some (by kernel_rfl))
 t3:=Tryz.underlying3
 a3:=Tryz.isAgg3
 z3:=Tryz.sizeOf3
 v3:=Tryz.zeroValue3
 t4:=Tryz.underlying4
 a4:=Tryz.isAgg4
 z4:=Tryz.sizeOf4
 v4:=Tryz.zeroValue4
 t5:=Tryz.underlying5
 a5:=Tryz.isAgg5
 z5:=Tryz.sizeOf5
 v5:=Tryz.zeroValue5
 t9:=Tryz.underlying9
 a9:=Tryz.isAgg9
 z9:=Tryz.sizeOf9
 v9:=Tryz.zeroValue9
 t46:=Tryz.underlying287
 a46:=Tryz.isAgg287
 z46:=Tryz.sizeOf287
 v46:=Tryz.zeroValue287
 t51:=Tryz.underlying292
 a51:=Tryz.isAgg292
 z51:=Tryz.sizeOf292
 v51:=Tryz.zeroValue292
 t146:=Tryz.underlying300
 a146:=Tryz.isAgg300
 z146:=Tryz.sizeOf300
 v146:=Tryz.zeroValue300
 g1:=by kernel_rfl }
open Go.RowKit Go.Lib in
theorem Tryz.strings_Contains_one (s:ByteArray) (c:UInt8) (w:World):
  Calls Tryz.prog 186 #[.string s,.string ⟨#[c]⟩] w fun e w'=>e=.returned (.bool (decide (0≤Lib.indexByte s.data.toList c)))∧w'=w:=Any.strings_Contains_one Tryz.lays144 s c w
def Tryz.laysGw15_ren:Go.Shelf.Ren:=⟨fun | 15=>198 | 20=>239 | n=>n,fun | 9=>9 | 23=>216 | 3=>3 | 4=>4 | 0=>0 | 21=>21 | n=>n,fun | n=>n⟩
theorem Tryz.laysGw15:Go.Proofs.LaysGw.n15 Tryz.prog Tryz.laysGw15_ren:={
 mixed:=by kernel_rfl
 f15:=Tryz.func198.trans (congrArg some (by kernel_rfl))
 f20:=Tryz.func239.trans (congrArg some (by kernel_rfl))
 t0:=Tryz.underlying0
 a0:=Tryz.isAgg0
 z0:=Tryz.sizeOf0
 v0:=Tryz.zeroValue0
 i0:=by kernel_rfl
 t3:=Tryz.underlying3
 a3:=Tryz.isAgg3
 z3:=Tryz.sizeOf3
 v3:=Tryz.zeroValue3
 i3:=by kernel_rfl
 t4:=Tryz.underlying4
 a4:=Tryz.isAgg4
 z4:=Tryz.sizeOf4
 v4:=Tryz.zeroValue4
 i4:=by kernel_rfl
 t9:=Tryz.underlying9
 a9:=Tryz.isAgg9
 z9:=Tryz.sizeOf9
 v9:=Tryz.zeroValue9
 i9:=by kernel_rfl
 t21:=Tryz.underlying21
 a21:=Tryz.isAgg21
 z21:=Tryz.sizeOf21
 v21:=Tryz.zeroValue21
 i21:=by kernel_rfl
 t23:=Tryz.underlying216
 a23:=Tryz.isAgg216
 z23:=Tryz.sizeOf216
 v23:=Tryz.zeroValue216
 i23:=by kernel_rfl }
def Tryz.lays155_ren:Go.Shelf.Ren:=⟨fun | 155=>214 | 154=>250 | 138=>276 | 165=>204 | 143=>228 | 166=>205 | 197=>244 | 169=>207 | 195=>292 | 218=>293 | 240=>242 | 241=>243 | 219=>263 | 260=>269 | 276=>267 | 277=>268 | 217=>280 | 225=>281 | 224=>282 | 267=>283 | 266=>294 | 314=>295 | n=>n,fun | 9=>9 | 3=>3 | 4=>4 | 72=>223 | 0=>0 | 76=>227 | 105=>257 | 21=>21 | 5=>5 | 70=>220 | 20=>20 | 37=>221 | 75=>226 | 127=>256 | 164=>270 | 46=>287 | 119=>288 | 139=>291 | 138=>290 | 146=>300 | 51=>292 | 80=>153 | n=>n,fun | 1=>2 | 3=>3 | 4=>4 | n=>n⟩
theorem Tryz.lays155:Go.Proofs.Lays.n155 Tryz.prog Tryz.lays155_ren:={
 mixed:=by kernel_rfl
 f138:=Tryz.func276.trans (congrArg some (by kernel_rfl))
 f143:=Tryz.func228.trans (congrArg some (by kernel_rfl))
 f154:=Tryz.func250.trans (congrArg some (by kernel_rfl))
 f155:=Tryz.func214.trans (congrArg some (by kernel_rfl))
 f165:=Tryz.func204.trans (congrArg some (by kernel_rfl))
 f166:=Tryz.func205.trans (congrArg some (by kernel_rfl))
 f169:=Tryz.func207.trans (congrArg some (by kernel_rfl))
 f195:=Tryz.func292.trans (congrArg some (by kernel_rfl))
 f197:=Tryz.func244.trans (congrArg some (by kernel_rfl))
 f217:=Tryz.func280.trans (congrArg some (by kernel_rfl))
 f218:=Tryz.func293.trans (congrArg some (by kernel_rfl))
 f219:=Tryz.func263.trans (congrArg some (by kernel_rfl))
 f224:=Tryz.func282.trans (congrArg some (by kernel_rfl))
 f225:=Tryz.func281.trans (congrArg some (by kernel_rfl))
 f240:=Tryz.func242.trans (congrArg some (by kernel_rfl))
 f241:=Tryz.func243.trans (congrArg some (by kernel_rfl))
 f260:=Tryz.func269.trans (congrArg some (by kernel_rfl))
 f266:=Tryz.func294.trans (congrArg some (by kernel_rfl))
 f267:=Tryz.func283.trans (congrArg some (by kernel_rfl))
 f276:=Tryz.func267.trans (congrArg some (by kernel_rfl))
 f277:=Tryz.func268.trans (congrArg some (by kernel_rfl))
 f314:=Tryz.func295.trans (congrArg some (by kernel_rfl))
 t0:=Tryz.underlying0
 a0:=Tryz.isAgg0
 z0:=Tryz.sizeOf0
 v0:=Tryz.zeroValue0
 t3:=Tryz.underlying3
 a3:=Tryz.isAgg3
 z3:=Tryz.sizeOf3
 v3:=Tryz.zeroValue3
 t4:=Tryz.underlying4
 a4:=Tryz.isAgg4
 z4:=Tryz.sizeOf4
 v4:=Tryz.zeroValue4
 t5:=Tryz.underlying5
 a5:=Tryz.isAgg5
 z5:=Tryz.sizeOf5
 v5:=Tryz.zeroValue5
 t9:=Tryz.underlying9
 a9:=Tryz.isAgg9
 z9:=Tryz.sizeOf9
 v9:=Tryz.zeroValue9
 t20:=Tryz.underlying20
 a20:=Tryz.isAgg20
 z20:=Tryz.sizeOf20
 v20:=Tryz.zeroValue20
 t21:=Tryz.underlying21
 a21:=Tryz.isAgg21
 z21:=Tryz.sizeOf21
 v21:=Tryz.zeroValue21
 t37:=Tryz.underlying221
 a37:=Tryz.isAgg221
 z37:=Tryz.sizeOf221
 v37:=Tryz.zeroValue221
 t46:=Tryz.underlying287
 a46:=Tryz.isAgg287
 z46:=Tryz.sizeOf287
 v46:=Tryz.zeroValue287
 t51:=Tryz.underlying292
 a51:=Tryz.isAgg292
 z51:=Tryz.sizeOf292
 v51:=Tryz.zeroValue292
 t70:=Tryz.underlying220
 a70:=Tryz.isAgg220
 z70:=Tryz.sizeOf220
 v70:=Tryz.zeroValue220
 t72:=Tryz.underlying223
 a72:=Tryz.isAgg223
 z72:=Tryz.sizeOf223
 v72:=Tryz.zeroValue223
 t75:=Tryz.underlying226
 a75:=Tryz.isAgg226
 z75:=Tryz.sizeOf226
 v75:=Tryz.zeroValue226
 t76:=Tryz.underlying227
 a76:=Tryz.isAgg227
 z76:=Tryz.sizeOf227
 v76:=Tryz.zeroValue227
 t105:=Tryz.underlying257
 a105:=Tryz.isAgg257
 z105:=Tryz.sizeOf257
 v105:=Tryz.zeroValue257
 t119:=Tryz.underlying288
 a119:=Tryz.isAgg288
 z119:=Tryz.sizeOf288
 t127:=Tryz.underlying256
 a127:=Tryz.isAgg256
 z127:=Tryz.sizeOf256
 v127:=Tryz.zeroValue256
 t138:=Tryz.underlying290
 a138:=Tryz.isAgg290
 z138:=Tryz.sizeOf290
 v138:=Tryz.zeroValue290
 t139:=Tryz.underlying291
 a139:=Tryz.isAgg291
 z139:=Tryz.sizeOf291
 v139:=Tryz.zeroValue291
 t146:=Tryz.underlying300
 a146:=Tryz.isAgg300
 z146:=Tryz.sizeOf300
 v146:=Tryz.zeroValue300
 t164:=Tryz.underlying270
 a164:=Tryz.isAgg270
 z164:=Tryz.sizeOf270
 v164:=Tryz.zeroValue270
 g1:=by kernel_rfl
 g3:=by kernel_rfl
 g4:=by kernel_rfl }
theorem Tryz.Builder_Extra_155:Builder.Extra Tryz.prog Tryz.lays155_ren:={
 sizeBuilder:=by kernel_rfl
 liesBuilder:=by kernel_rfl
 t5:=Tryz.underlying5
 a5:=Tryz.isAgg5
 z5:=Tryz.sizeOf5
 v5:=Tryz.zeroValue5
 infoByte:=by kernel_rfl
 cellsByte:=by kernel_rfl
 sizeByte:=by kernel_rfl
 neB5:=by decide }
open Go.RowKit Go.Lib in
theorem Tryz.strings_ReplaceAll (s old new:ByteArray) (m:Int) (w:World) (hs:s.size < 4294967281) (hm:w.cell? ⟨2,0,none⟩=some (.int .i64 m)) (h1:1≤old.size) (hlen:s.size+Lib.countB s old * new.size≤140737488355328):
  Calls Tryz.prog 214 #[.string s,.string old,.string new] w fun e w'=>
   e=.returned (.string ⟨(Lib.replaceAll s.data.toList old.data.toList new.data.toList).toArray⟩)∧Below w.heap.size w w':=Any.strings_ReplaceAll Tryz.lays155 Tryz.Builder_Extra_155 s old new m w hs hm h1 hlen
open Go.RowKit Go.Lib in
theorem Tryz.strings_IndexFunc_grows (g:Nat) (lb:Array Value) (eg:∀ args w,(callFunc g args).run Tryz.prog w=.ok (.enter g args) w) (p:Nat→Bool) (s:ByteArray) (w:World) (hp:PredGrows Tryz.prog g lb p w):
  Calls Tryz.prog 198 #[.string s,.func (.func g) #[] lb] w fun e w'=>e=.returned (.int .i64 (Lib.idxFunc p true s))∧Below w.heap.size w w':=Any.strings_IndexFunc_grows Tryz.laysGw15 g lb eg p s w hp
end Go.Proofs
