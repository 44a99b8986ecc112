/- The library's contracts at this program (written by the kit's own tool). -/
import Derived.Shelf.Strings.Builder1
import Derived.Shelf.Strings.Builder2
import Derived.Shelf.Strings.OnBuilder
import Derived.Shelf.Small.Utf8
import Derived.Shelf.Small.Wraps
import Derived.Shelf.Strings.BuilderF
import Derived.Shelf.Strings.BuilderK
import Derived.Shelf.Strings.BuilderRune
import Derived.Shelf.Strconv.Itoa0
import Derived.Shelf.Strconv.Itoa1
import Derived.Shelf.LaysM
import Derived.Shelf.Strconv.Itoa2
import Derived.Shelf.Strconv.Itoa3
import Derived.Shelf.Strconv.Itoa4
import Derived.Shelf.Strings.Search1
import Derived.Shelf.Strings.Search2
import Derived.Shelf.Strings.Search3
import Derived.Shelf.Strings.Count
import Derived.Shelf.Strings.Shaped
import Derived.Shelf.GgClosure.StringsIndexFunc
import Derived.Ground.GgwProg
import Derived.Shelf.GgClosure.StringsIndexFuncTop
import Derived.Shelf.Strings.Split
import Derived.Shelf.Strings.Replace
import Derived.Shelf.Strings.SplitShaped
import Derived.Shelf.Unicode.Latin
import Derived.Shelf.Strings.RuneCount
import Derived.Shelf.Unicode.DecodeSlow
import Derived.Shelf.Unicode.DecodeAny
import Derived.Shelf.Unicode.CaseLookup
import Derived.Shelf.Unicode.CaseConvert
import Derived.Shelf.Unicode.CaseTo
import Derived.Shelf.Unicode.CaseLaid
import Derived.Shelf.Strings.MapAny
import Derived.Shelf.Strings.CaseAny
import Derived.Shelf.Strings.FuncGrows
import Derived.Test.YtiefilkilbdpgaaGreatDoorProg
namespace Go.Proofs
open Go.Shelf
def Tryz.lays158_ren:Go.Shelf.Ren:=⟨fun | 158=>158 | 165=>221 | 166=>222 | 167=>223 | 169=>224 | 230=>225 | 203=>226 | 240=>259 | 241=>260 | 197=>261 | 118=>262 | 168=>263 | 270=>264 | 262=>265 | 276=>280 | 277=>281 | 260=>282 | 242=>283 | 313=>284 | 278=>294 | 274=>295 | 275=>296 | n=>n,fun | 9=>9 | 4=>4 | 3=>3 | 5=>5 | 72=>238 | 0=>0 | 76=>242 | 75=>241 | 107=>246 | 70=>235 | 20=>20 | 37=>236 | 127=>273 | 21=>21 | 105=>274 | 164=>287 | 162=>293 | 203=>291 | 119=>304 | 46=>284 | 139=>307 | 138=>306 | 51=>308 | 160=>309 | 208=>321 | 206=>319 | 80=>167 | n=>n,fun | 13=>1 | 3=>3 | 4=>4 | n=>n⟩
theorem Tryz.lays158:Go.Proofs.Lays.n158 Tryz.prog Tryz.lays158_ren:={
 mixed:=by kernel_rfl
 f118:=Tryz.func262.trans (congrArg some (by kernel_rfl))
 f158:=Tryz.func158.trans (congrArg some (by kernel_rfl))
 f165:=Tryz.func221.trans (congrArg some (by kernel_rfl))
 f166:=Tryz.func222.trans (congrArg some (by kernel_rfl))
 f167:=Tryz.func223.trans (congrArg some (by kernel_rfl))
 f168:=Tryz.func263.trans (congrArg some (by kernel_rfl))
 f169:=Tryz.func224.trans (congrArg some (by kernel_rfl))
 f197:=Tryz.func261.trans (congrArg some (by kernel_rfl))
 f203:=Tryz.func226.trans (congrArg some (by kernel_rfl))
 f230:=Tryz.func225.trans (congrArg some (by kernel_rfl))
 f240:=Tryz.func259.trans (congrArg some (by kernel_rfl))
 f241:=Tryz.func260.trans (congrArg some (by kernel_rfl))
 f242:=Tryz.func283.trans (congrArg some (by kernel_rfl))
 f260:=Tryz.func282.trans (congrArg some (by kernel_rfl))
 f262:=Tryz.func265.trans (congrArg some (by kernel_rfl))
 f270:=Tryz.func264.trans (congrArg some (by kernel_rfl))
 f274:=Tryz.func295.trans (congrArg some (by kernel_rfl))
 f275:=Tryz.func296.trans (congrArg some (by kernel_rfl))
 f276:=Tryz.func280.trans (congrArg some (by kernel_rfl))
 f277:=Tryz.func281.trans (congrArg some (by kernel_rfl))
 f278:=Tryz.func294.trans (congrArg some (by kernel_rfl))
 f313:=Tryz.func284.trans (congrArg some (by kernel_rfl))
 t0:=Tryz.underlying0
 a0:=Tryz.isAgg0
 z0:=Tryz.sizeOf0
 v0:=Tryz.zeroValue0
 t3:=Tryz.underlying3
 a3:=Tryz.isAgg3
 z3:=Tryz.sizeOf3
 v3:=Tryz.zeroValue3
 t4:=Tryz.underlying4
 a4:=Tryz.isAgg4
 z4:=Tryz.sizeOf4
 v4:=Tryz.zeroValue4
 t5:=Tryz.underlying5
 a5:=Tryz.isAgg5
 z5:=Tryz.sizeOf5
 v5:=Tryz.zeroValue5
 t9:=Tryz.underlying9
 a9:=Tryz.isAgg9
 z9:=Tryz.sizeOf9
 v9:=Tryz.zeroValue9
 t20:=Tryz.underlying20
 a20:=Tryz.isAgg20
 z20:=Tryz.sizeOf20
 v20:=Tryz.zeroValue20
 t21:=Tryz.underlying21
 a21:=Tryz.isAgg21
 z21:=Tryz.sizeOf21
 v21:=Tryz.zeroValue21
 t37:=Tryz.underlying236
 a37:=Tryz.isAgg236
 z37:=Tryz.sizeOf236
 v37:=Tryz.zeroValue236
 t46:=Tryz.underlying284
 a46:=Tryz.isAgg284
 z46:=Tryz.sizeOf284
 v46:=Tryz.zeroValue284
 t51:=Tryz.underlying308
 a51:=Tryz.isAgg308
 z51:=Tryz.sizeOf308
 v51:=Tryz.zeroValue308
 t70:=Tryz.underlying235
 a70:=Tryz.isAgg235
 z70:=Tryz.sizeOf235
 v70:=Tryz.zeroValue235
 t72:=Tryz.underlying238
 a72:=Tryz.isAgg238
 z72:=Tryz.sizeOf238
 v72:=Tryz.zeroValue238
 t75:=Tryz.underlying241
 a75:=Tryz.isAgg241
 z75:=Tryz.sizeOf241
 v75:=Tryz.zeroValue241
 t76:=Tryz.underlying242
 a76:=Tryz.isAgg242
 z76:=Tryz.sizeOf242
 v76:=Tryz.zeroValue242
 t105:=Tryz.underlying274
 a105:=Tryz.isAgg274
 z105:=Tryz.sizeOf274
 v105:=Tryz.zeroValue274
 t107:=Tryz.underlying246
 a107:=Tryz.isAgg246
 z107:=Tryz.sizeOf246
 v107:=Tryz.zeroValue246
 t119:=Tryz.underlying304
 a119:=Tryz.isAgg304
 z119:=Tryz.sizeOf304
 t127:=Tryz.underlying273
 a127:=Tryz.isAgg273
 z127:=Tryz.sizeOf273
 v127:=Tryz.zeroValue273
 t138:=Tryz.underlying306
 a138:=Tryz.isAgg306
 z138:=Tryz.sizeOf306
 v138:=Tryz.zeroValue306
 t139:=Tryz.underlying307
 a139:=Tryz.isAgg307
 z139:=Tryz.sizeOf307
 v139:=Tryz.zeroValue307
 t160:=Tryz.underlying309
 a160:=Tryz.isAgg309
 z160:=Tryz.sizeOf309
 v160:=Tryz.zeroValue309
 t162:=Tryz.underlying293
 a162:=Tryz.isAgg293
 z162:=Tryz.sizeOf293
 v162:=Tryz.zeroValue293
 t164:=Tryz.underlying287
 a164:=Tryz.isAgg287
 z164:=Tryz.sizeOf287
 v164:=Tryz.zeroValue287
 t203:=Tryz.underlying291
 a203:=Tryz.isAgg291
 z203:=Tryz.sizeOf291
 v203:=Tryz.zeroValue291
 t206:=Tryz.underlying319
 a206:=Tryz.isAgg319
 z206:=Tryz.sizeOf319
 v206:=Tryz.zeroValue319
 t208:=Tryz.underlying321
 a208:=Tryz.isAgg321
 z208:=Tryz.sizeOf321
 v208:=Tryz.zeroValue321
 g3:=by kernel_rfl
 g4:=by kernel_rfl
 g13:=by kernel_rfl }
theorem Tryz.Builder_Extra_158:Builder.Extra Tryz.prog Tryz.lays158_ren:={
 sizeBuilder:=by kernel_rfl
 liesBuilder:=by kernel_rfl
 t5:=Tryz.underlying5
 a5:=Tryz.isAgg5
 z5:=Tryz.sizeOf5
 v5:=Tryz.zeroValue5
 infoByte:=by kernel_rfl
 cellsByte:=by kernel_rfl
 sizeByte:=by kernel_rfl
 neB5:=by decide }
open Go.RowKit in
theorem Tryz.strings_ToUpper_ascii (s:ByteArray) (w:World) (hs:s.size≤140737488355328) (hascii:∀ (j:Nat) (b:UInt8),s.data.toList[j]?=some b→b.toNat < 128):
 Calls Tryz.prog 158 #[.string s] w fun e w'=>e=.returned (.string ⟨(Lib.toUpperA s.data.toList).toArray⟩)∧Below w.heap.size w w':=Any.strings_ToUpper_ascii Tryz.lays158 Tryz.Builder_Extra_158 s w hs hascii
def Tryz.lays156_ren:Go.Shelf.Ren:=⟨fun | 156=>229 | 165=>221 | 166=>222 | 169=>224 | 240=>259 | 241=>260 | 276=>280 | 277=>281 | n=>n,fun | 31=>30 | 9=>9 | 3=>3 | 4=>4 | 0=>0 | 20=>20 | 72=>238 | 76=>242 | 70=>235 | 37=>236 | 75=>241 | 127=>273 | 164=>287 | 5=>5 | 80=>167 | n=>n,fun | n=>n⟩
theorem Tryz.lays156:Go.Proofs.Lays.n156 Tryz.prog Tryz.lays156_ren:={
 mixed:=by kernel_rfl
 f156:=Tryz.func229.trans (congrArg some (by kernel_rfl))
 f165:=Tryz.func221.trans (congrArg some (by kernel_rfl))
 f166:=Tryz.func222.trans (congrArg some (by kernel_rfl))
 f169:=Tryz.func224.trans (congrArg some (by kernel_rfl))
 f240:=Tryz.func259.trans (congrArg some (by kernel_rfl))
 f241:=Tryz.func260.trans (congrArg some (by kernel_rfl))
 f276:=Tryz.func280.trans (congrArg some (by kernel_rfl))
 f277:=Tryz.func281.trans (congrArg some (by kernel_rfl))
 t0:=Tryz.underlying0
 a0:=Tryz.isAgg0
 z0:=Tryz.sizeOf0
 v0:=Tryz.zeroValue0
 t3:=Tryz.underlying3
 a3:=Tryz.isAgg3
 z3:=Tryz.sizeOf3
 v3:=Tryz.zeroValue3
 t4:=Tryz.underlying4
 a4:=Tryz.isAgg4
 z4:=Tryz.sizeOf4
 v4:=Tryz.zeroValue4
 t9:=Tryz.underlying9
 a9:=Tryz.isAgg9
 z9:=Tryz.sizeOf9
 v9:=Tryz.zeroValue9
 t20:=Tryz.underlying20
 a20:=Tryz.isAgg20
 z20:=Tryz.sizeOf20
 v20:=Tryz.zeroValue20
 t31:=Tryz.underlying30
 a31:=Tryz.isAgg30
 z31:=Tryz.sizeOf30
 v31:=Tryz.zeroValue30
 t37:=Tryz.underlying236
 a37:=Tryz.isAgg236
 z37:=Tryz.sizeOf236
 v37:=Tryz.zeroValue236
 t70:=Tryz.underlying235
 a70:=Tryz.isAgg235
 z70:=Tryz.sizeOf235
 v70:=Tryz.zeroValue235
 t72:=Tryz.underlying238
 a72:=Tryz.isAgg238
 z72:=Tryz.sizeOf238
 v72:=Tryz.zeroValue238
 t75:=Tryz.underlying241
 a75:=Tryz.isAgg241
 z75:=Tryz.sizeOf241
 v75:=Tryz.zeroValue241
 t76:=Tryz.underlying242
 a76:=Tryz.isAgg242
 z76:=Tryz.sizeOf242
 v76:=Tryz.zeroValue242
 t127:=Tryz.underlying273
 a127:=Tryz.isAgg273
 z127:=Tryz.sizeOf273
 v127:=Tryz.zeroValue273
 t164:=Tryz.underlying287
 a164:=Tryz.isAgg287
 z164:=Tryz.sizeOf287
 v164:=Tryz.zeroValue287 }
theorem Tryz.Builder_Extra_156:Builder.Extra Tryz.prog Tryz.lays156_ren:={
 sizeBuilder:=by kernel_rfl
 liesBuilder:=by kernel_rfl
 t5:=Tryz.underlying5
 a5:=Tryz.isAgg5
 z5:=Tryz.sizeOf5
 v5:=Tryz.zeroValue5
 infoByte:=by kernel_rfl
 cellsByte:=by kernel_rfl
 sizeByte:=by kernel_rfl
 neB5:=by decide }
open Go.RowKit in
theorem Tryz.strings_Join_none (a:Option Addr) (c:Nat) (sep:ByteArray) (w:World):
 Calls Tryz.prog 229 #[.slice a 0 c,.string sep] w fun e w'=>e=.returned (.string ⟨#[]⟩)∧w'=w:=Any.strings_Join_none Tryz.lays156 Tryz.Builder_Extra_156 a c sep w
open Go.RowKit in
theorem Tryz.strings_Join (bk o c:Nat) (xs:List ByteArray) (sep:ByteArray) (w:World) (hcells:∀ (j:Nat) x,xs[j]?=some x→w.cell? ⟨bk,o+j,none⟩=some (.string x)) (hbk:bk < w.heap.size) (hN:xs.length≤140737488355328) (hcap:xs.length≤c) (hlen:(Lib.join (xs.map (·.data.toList)) sep.data.toList).length≤140737488355328):
 Calls Tryz.prog 229 #[.slice (some ⟨bk,o,none⟩) xs.length c,.string sep] w fun e w'=>e=.returned (.string ⟨(Lib.join (xs.map (·.data.toList)) sep.data.toList).toArray⟩)∧Below w.heap.size w w':=Any.strings_Join Tryz.lays156 Tryz.Builder_Extra_156 bk o c xs sep w hcells hbk hN hcap hlen
def Tryz.laysM173_ren:Go.Shelf.Ren:=⟨fun | 173=>230 | 246=>266 | 283=>285 | 284=>286 | 285=>287 | 286=>288 | 129=>298 | 317=>297 | 318=>299 | 319=>300 | 320=>301 | 337=>308 | 338=>309 | n=>n,fun | 2=>2 | 3=>3 | 9=>9 | 4=>4 | 171=>295 | 0=>0 | 53=>296 | 37=>236 | 5=>5 | 173=>299 | 212=>314 | 51=>308 | 20=>20 | 213=>315 | 46=>284 | 232=>325 | 233=>326 | n=>n,fun | 17=>5 | 18=>6 | 19=>7 | n=>n⟩
theorem Tryz.laysM173:Go.Proofs.LaysM.n173 Tryz.prog Tryz.laysM173_ren:={
 mixed:=by kernel_rfl
 f129:=Tryz.func298.trans (congrArg some (by kernel_rfl))
 f173:=Tryz.func230.trans (congrArg some (by kernel_rfl))
 f246:=Tryz.func266.trans (congrArg some (by kernel_rfl))
 f283:=Tryz.func285.trans (congrArg some (by kernel_rfl))
 f284:=Tryz.func286.trans (congrArg some (by kernel_rfl))
 f285:=Tryz.func287.trans (congrArg some (by kernel_rfl))
 f286:=Tryz.func288.trans (congrArg some (by kernel_rfl))
 f317:=Tryz.func297.trans (congrArg some (by kernel_rfl))
 f318:=Tryz.func299.trans (congrArg some (by kernel_rfl))
 f319:=Tryz.func300.trans (congrArg some (by kernel_rfl))
 f320:=Tryz.func301.trans (congrArg some (by kernel_rfl))
 f337:=Tryz.func308.trans (congrArg some (by kernel_rfl))
 f338:=Tryz.func309.trans (congrArg some (by kernel_rfl))
 t0:=Tryz.underlying0
 a0:=Tryz.isAgg0
 z0:=Tryz.sizeOf0
 v0:=Tryz.zeroValue0
 t2:=Tryz.underlying2
 a2:=Tryz.isAgg2
 z2:=Tryz.sizeOf2
 v2:=Tryz.zeroValue2
 t3:=Tryz.underlying3
 a3:=Tryz.isAgg3
 z3:=Tryz.sizeOf3
 v3:=Tryz.zeroValue3
 t4:=Tryz.underlying4
 a4:=Tryz.isAgg4
 z4:=Tryz.sizeOf4
 v4:=Tryz.zeroValue4
 t5:=Tryz.underlying5
 a5:=Tryz.isAgg5
 z5:=Tryz.sizeOf5
 v5:=Tryz.zeroValue5
 t9:=Tryz.underlying9
 a9:=Tryz.isAgg9
 z9:=Tryz.sizeOf9
 v9:=Tryz.zeroValue9
 t20:=Tryz.underlying20
 a20:=Tryz.isAgg20
 z20:=Tryz.sizeOf20
 v20:=Tryz.zeroValue20
 t37:=Tryz.underlying236
 a37:=Tryz.isAgg236
 z37:=Tryz.sizeOf236
 v37:=Tryz.zeroValue236
 t46:=Tryz.underlying284
 a46:=Tryz.isAgg284
 z46:=Tryz.sizeOf284
 v46:=Tryz.zeroValue284
 t51:=Tryz.underlying308
 a51:=Tryz.isAgg308
 z51:=Tryz.sizeOf308
 v51:=Tryz.zeroValue308
 t53:=Tryz.underlying296
 a53:=Tryz.isAgg296
 z53:=Tryz.sizeOf296
 v53:=Tryz.zeroValue296
 t171:=Tryz.underlying295
 a171:=Tryz.isAgg295
 z171:=Tryz.sizeOf295
 v171:=Tryz.zeroValue295
 t173:=Tryz.underlying299
 a173:=Tryz.isAgg299
 z173:=Tryz.sizeOf299
 v173:=Tryz.zeroValue299
 t212:=Tryz.underlying314
 a212:=Tryz.isAgg314
 z212:=Tryz.sizeOf314
 v212:=Tryz.zeroValue314
 t213:=Tryz.underlying315
 a213:=Tryz.isAgg315
 z213:=Tryz.sizeOf315
 t232:=Tryz.underlying325
 a232:=Tryz.isAgg325
 z232:=Tryz.sizeOf325
 v232:=Tryz.zeroValue325
 t233:=Tryz.underlying326
 a233:=Tryz.isAgg326
 z233:=Tryz.sizeOf326
 v233:=Tryz.zeroValue326
 g17:=by kernel_rfl
 g18:=by kernel_rfl
 g19:=by kernel_rfl
 i0:=by kernel_rfl
 i2:=by kernel_rfl
 i3:=by kernel_rfl
 i4:=by kernel_rfl
 i5:=by kernel_rfl
 i9:=by kernel_rfl
 i20:=by kernel_rfl
 i37:=by kernel_rfl
 i46:=by kernel_rfl
 i51:=by kernel_rfl
 i53:=by kernel_rfl
 i171:=by kernel_rfl
 i173:=by kernel_rfl
 i212:=by kernel_rfl
 i232:=by kernel_rfl
 i233:=by kernel_rfl
 m17:=by kernel_rfl
 m18:=by kernel_rfl
 m19:=by kernel_rfl }
open Go.RowKit Go.Sort Go.Lib in
theorem Tryz.strconv_FormatInt_10 (n:Int) (h0:-9223372036854775808≤n) (h1:n≤9223372036854775807) (w:World) (htab:Lib.TabIs Tryz.prog w "internal/strconv.uint64pow10" .u64 Lib.pow10Tab):
 Calls Tryz.prog 230 #[.int .i64 n,.int .i64 10] w fun e w'=>e=.returned (.string ⟨(Lib.itoa n).toArray⟩)∧∃ k os,w'=grow (w.drewN k) os:=Any.strconv_FormatInt_10 Tryz.laysM173 n h0 h1 w htab
def Tryz.lays144_ren:Go.Shelf.Ren:=⟨fun | 144=>236 | 143=>272 | 219=>290 | 217=>304 | 225=>305 | 224=>306 | 267=>307 | 266=>310 | 314=>311 | n=>n,fun | 9=>9 | 4=>4 | 3=>3 | 5=>5 | 46=>284 | 146=>323 | 51=>308 | n=>n,fun | 1=>2 | n=>n⟩
theorem Tryz.lays144:Go.Proofs.Lays.n144 Tryz.prog Tryz.lays144_ren:={
 mixed:=by kernel_rfl
 f143:=Tryz.func272.trans (congrArg some (by kernel_rfl))
 f144:=Tryz.func236.trans (congrArg some (by kernel_rfl))
 f217:=Tryz.func304.trans (congrArg some (by kernel_rfl))
 f219:=Tryz.func290.trans (congrArg some (by kernel_rfl))
 f224:=Tryz.func306.trans (congrArg some (by kernel_rfl))
 f225:=Tryz.func305.trans (congrArg some (by kernel_rfl))
 f266:=Tryz.func310.trans (congrArg some (by kernel_rfl))
 f267:=Tryz.func307.trans (congrArg some (by kernel_rfl))
 f314:=Tryz.func311.trans (congrArg some (by kernel_rfl))
 t3:=Tryz.underlying3
 a3:=Tryz.isAgg3
 z3:=Tryz.sizeOf3
 v3:=Tryz.zeroValue3
 t4:=Tryz.underlying4
 a4:=Tryz.isAgg4
 z4:=Tryz.sizeOf4
 v4:=Tryz.zeroValue4
 t5:=Tryz.underlying5
 a5:=Tryz.isAgg5
 z5:=Tryz.sizeOf5
 v5:=Tryz.zeroValue5
 t9:=Tryz.underlying9
 a9:=Tryz.isAgg9
 z9:=Tryz.sizeOf9
 v9:=Tryz.zeroValue9
 t46:=Tryz.underlying284
 a46:=Tryz.isAgg284
 z46:=Tryz.sizeOf284
 v46:=Tryz.zeroValue284
 t51:=Tryz.underlying308
 a51:=Tryz.isAgg308
 z51:=Tryz.sizeOf308
 v51:=Tryz.zeroValue308
 t146:=Tryz.underlying323
 a146:=Tryz.isAgg323
 z146:=Tryz.sizeOf323
 v146:=Tryz.zeroValue323
 g1:=by kernel_rfl }
open Go.RowKit Go.Lib in
theorem Tryz.strings_Contains_one (s:ByteArray) (c:UInt8) (w:World):
 Calls Tryz.prog 236 #[.string s,.string ⟨#[c]⟩] w fun e w'=>e=.returned (.bool (decide (0≤Lib.indexByte s.data.toList c)))∧w'=w:=Any.strings_Contains_one Tryz.lays144 s c w
def Tryz.laysGw15_ren:Go.Shelf.Ren:=⟨fun | 15=>173 | 20=>237 | n=>n,fun | 9=>9 | 23=>209 | 3=>3 | 4=>4 | 0=>0 | 21=>21 | n=>n,fun | n=>n⟩
theorem Tryz.laysGw15:Go.Proofs.LaysGw.n15 Tryz.prog Tryz.laysGw15_ren:={
 mixed:=by kernel_rfl
 f15:=Tryz.func173.trans (congrArg some (by kernel_rfl))
 f20:=Tryz.func237.trans (congrArg some (by kernel_rfl))
 t0:=Tryz.underlying0
 a0:=Tryz.isAgg0
 z0:=Tryz.sizeOf0
 v0:=Tryz.zeroValue0
 i0:=by kernel_rfl
 t3:=Tryz.underlying3
 a3:=Tryz.isAgg3
 z3:=Tryz.sizeOf3
 v3:=Tryz.zeroValue3
 i3:=by kernel_rfl
 t4:=Tryz.underlying4
 a4:=Tryz.isAgg4
 z4:=Tryz.sizeOf4
 v4:=Tryz.zeroValue4
 i4:=by kernel_rfl
 t9:=Tryz.underlying9
 a9:=Tryz.isAgg9
 z9:=Tryz.sizeOf9
 v9:=Tryz.zeroValue9
 i9:=by kernel_rfl
 t21:=Tryz.underlying21
 a21:=Tryz.isAgg21
 z21:=Tryz.sizeOf21
 v21:=Tryz.zeroValue21
 i21:=by kernel_rfl
 t23:=Tryz.underlying209
 a23:=Tryz.isAgg209
 z23:=Tryz.sizeOf209
 v23:=Tryz.zeroValue209
 i23:=by kernel_rfl }
def Tryz.lays155_ren:Go.Shelf.Ren:=⟨fun | 155=>231 | 154=>267 | 138=>289 | 165=>221 | 143=>272 | 166=>222 | 197=>261 | 169=>224 | 195=>302 | 218=>303 | 240=>259 | 241=>260 | 219=>290 | 260=>282 | 276=>280 | 277=>281 | 217=>304 | 225=>305 | 224=>306 | 267=>307 | 266=>310 | 314=>311 | n=>n,fun | 9=>9 | 3=>3 | 4=>4 | 72=>238 | 0=>0 | 76=>242 | 105=>274 | 21=>21 | 5=>5 | 70=>235 | 20=>20 | 37=>236 | 75=>241 | 127=>273 | 164=>287 | 46=>284 | 119=>304 | 139=>307 | 138=>306 | 146=>323 | 51=>308 | 80=>167 | n=>n,fun | 1=>2 | 3=>3 | 4=>4 | n=>n⟩
theorem Tryz.lays155:Go.Proofs.Lays.n155 Tryz.prog Tryz.lays155_ren:={
 mixed:=by kernel_rfl
 f138:=Tryz.func289.trans (congrArg some (by kernel_rfl))
 f143:=Tryz.func272.trans (congrArg some (by kernel_rfl))
 f154:=Tryz.func267.trans (congrArg some (by kernel_rfl))
 f155:=Tryz.func231.trans (congrArg some (by kernel_rfl))
 f165:=Tryz.func221.trans (congrArg some (by kernel_rfl))
 f166:=Tryz.func222.trans (congrArg some (by kernel_rfl))
 f169:=Tryz.func224.trans (congrArg some (by kernel_rfl))
 f195:=Tryz.func302.trans (congrArg some (by kernel_rfl))
 f197:=Tryz.func261.trans (congrArg some (by kernel_rfl))
 f217:=Tryz.func304.trans (congrArg some (by kernel_rfl))
 f218:=Tryz.func303.trans (congrArg some (by kernel_rfl))
 f219:=Tryz.func290.trans (congrArg some (by kernel_rfl))
 f224:=Tryz.func306.trans (congrArg some (by kernel_rfl))
 f225:=Tryz.func305.trans (congrArg some (by kernel_rfl))
 f240:=Tryz.func259.trans (congrArg some (by kernel_rfl))
 f241:=Tryz.func260.trans (congrArg some (by kernel_rfl))
 f260:=Tryz.func282.trans (congrArg some (by kernel_rfl))
 f266:=Tryz.func310.trans (congrArg some (by kernel_rfl))
 f267:=Tryz.func307.trans (congrArg some (by kernel_rfl))
 f276:=Tryz.func280.trans (congrArg some (by kernel_rfl))
 f277:=Tryz.func281.trans (congrArg some (by kernel_rfl))
 f314:=Tryz.func311.trans (congrArg some (by kernel_rfl))
 t0:=Tryz.underlying0
 a0:=Tryz.isAgg0
 z0:=Tryz.sizeOf0
 v0:=Tryz.zeroValue0
 t3:=Tryz.underlying3
 a3:=Tryz.isAgg3
 z3:=Tryz.sizeOf3
 v3:=Tryz.zeroValue3
 t4:=Tryz.underlying4
 a4:=Tryz.isAgg4
 z4:=Tryz.sizeOf4
 v4:=Tryz.zeroValue4
 t5:=Tryz.underlying5
 a5:=Tryz.isAgg5
 z5:=Tryz.sizeOf5
 v5:=Tryz.zeroValue5
 t9:=Tryz.underlying9
 a9:=Tryz.isAgg9
 z9:=Tryz.sizeOf9
 v9:=Tryz.zeroValue9
 t20:=Tryz.underlying20
 a20:=Tryz.isAgg20
 z20:=Tryz.sizeOf20
 v20:=Tryz.zeroValue20
 t21:=Tryz.underlying21
 a21:=Tryz.isAgg21
 z21:=Tryz.sizeOf21
 v21:=Tryz.zeroValue21
 t37:=Tryz.underlying236
 a37:=Tryz.isAgg236
 z37:=Tryz.sizeOf236
 v37:=Tryz.zeroValue236
 t46:=Tryz.underlying284
 a46:=Tryz.isAgg284
 z46:=Tryz.sizeOf284
 v46:=Tryz.zeroValue284
 t51:=Tryz.underlying308
 a51:=Tryz.isAgg308
 z51:=Tryz.sizeOf308
 v51:=Tryz.zeroValue308
 t70:=Tryz.underlying235
 a70:=Tryz.isAgg235
 z70:=Tryz.sizeOf235
 v70:=Tryz.zeroValue235
 t72:=Tryz.underlying238
 a72:=Tryz.isAgg238
 z72:=Tryz.sizeOf238
 v72:=Tryz.zeroValue238
 t75:=Tryz.underlying241
 a75:=Tryz.isAgg241
 z75:=Tryz.sizeOf241
 v75:=Tryz.zeroValue241
 t76:=Tryz.underlying242
 a76:=Tryz.isAgg242
 z76:=Tryz.sizeOf242
 v76:=Tryz.zeroValue242
 t105:=Tryz.underlying274
 a105:=Tryz.isAgg274
 z105:=Tryz.sizeOf274
 v105:=Tryz.zeroValue274
 t119:=Tryz.underlying304
 a119:=Tryz.isAgg304
 z119:=Tryz.sizeOf304
 t127:=Tryz.underlying273
 a127:=Tryz.isAgg273
 z127:=Tryz.sizeOf273
 v127:=Tryz.zeroValue273
 t138:=Tryz.underlying306
 a138:=Tryz.isAgg306
 z138:=Tryz.sizeOf306
 v138:=Tryz.zeroValue306
 t139:=Tryz.underlying307
 a139:=Tryz.isAgg307
 z139:=Tryz.sizeOf307
 v139:=Tryz.zeroValue307
 t146:=Tryz.underlying323
 a146:=Tryz.isAgg323
 z146:=Tryz.sizeOf323
 v146:=Tryz.zeroValue323
 t164:=Tryz.underlying287
 a164:=Tryz.isAgg287
 z164:=Tryz.sizeOf287
 v164:=Tryz.zeroValue287
 g1:=by kernel_rfl
 g3:=by kernel_rfl
 g4:=by kernel_rfl }
theorem Tryz.Builder_Extra_155:Builder.Extra Tryz.prog Tryz.lays155_ren:={
 sizeBuilder:=by kernel_rfl
 liesBuilder:=by kernel_rfl
 t5:=Tryz.underlying5
 a5:=Tryz.isAgg5
 z5:=Tryz.sizeOf5
 v5:=Tryz.zeroValue5
 infoByte:=by kernel_rfl
 cellsByte:=by kernel_rfl
 sizeByte:=by kernel_rfl
 neB5:=by decide }
open Go.RowKit Go.Lib in
theorem Tryz.strings_ReplaceAll (s old new:ByteArray) (m:Int) (w:World) (hs:s.size < 4294967281) (hm:w.cell? ⟨2,0,none⟩=some (.int .i64 m)) (h1:1≤old.size) (hlen:s.size+Lib.countB s old * new.size≤140737488355328):
  Calls Tryz.prog 231 #[.string s,.string old,.string new] w fun e w'=>
   e=.returned (.string ⟨(Lib.replaceAll s.data.toList old.data.toList new.data.toList).toArray⟩)∧Below w.heap.size w w':=Any.strings_ReplaceAll Tryz.lays155 Tryz.Builder_Extra_155 s old new m w hs hm h1 hlen
open Go.RowKit Go.Lib in
theorem Tryz.strings_IndexFunc_grows (g:Nat) (lb:Array Value) (eg:∀ args w,(callFunc g args).run Tryz.prog w=.ok (.enter g args) w) (p:Nat→Bool) (s:ByteArray) (w:World) (hp:PredGrows Tryz.prog g lb p w):
 Calls Tryz.prog 173 #[.string s,.func (.func g) #[] lb] w fun e w'=>e=.returned (.int .i64 (Lib.idxFunc p true s))∧Below w.heap.size w w':=Any.strings_IndexFunc_grows Tryz.laysGw15 g lb eg p s w hp
end Go.Proofs
