/- The library's contracts at this program (written by the kit's own tool). -/
import Derived.Shelf.Strings.OnBuilder
import Derived.Shelf.Small.Strs
import Derived.Shelf.Small.Wraps
import Derived.Shelf.Strconv.Itoa4
import Derived.Shelf.Strings.Shaped
import Derived.Shelf.Strings.SplitShaped
import Derived.Shelf.Unicode.Decode
import Derived.Shelf.Strings.RuneCount
import Derived.Shelf.Unicode.CaseLaid
import Derived.Shelf.Strings.FuncGrows
import Derived.Test.YtgcekmmgphhofaaGreatDoorProg
namespace Go.Proofs
open Go.Shelf Tryz
set_option maxRecDepth 9999
theorem ck{α:Type}{a b:α}(h:a=b:=by kernel_rfl):some a=some b:=congrArg some h
def Tryz.lays158_ren:Go.Shelf.Ren:=⟨fun |158=>186|165=>246|166=>46|167=>48|169=>20|230=>247|203=>248|240=>87|241=>305|197=>306|118=>307|168=>308|270=>309|262=>310|276=>137|277=>362|260=>363|242=>364|313=>365|278=>394|274=>395|275=>396|n=>n,fun |9=>9|4=>4|3=>3|5=>5|72=>60|0=>0|76=>107|75=>106|107=>332|70=>58|20=>20|37=>51|127=>116|21=>21|105=>384|164=>210|162=>417|203=>415|119=>440|46=>291|139=>443|138=>442|51=>335|160=>444|208=>457|206=>455|80=>72|n=>n,fun |13=>4|3=>8|4=>9|n=>n⟩
theorem Tryz.lays158:Go.Proofs.Lays.n158 Tryz.prog Tryz.lays158_ren:=⟨by kernel_rfl,func307.trans ck,func186.trans ck,func246.trans ck,func46.trans ck,func48.trans ck,func308.trans ck,func20.trans ck,func306.trans ck,func248.trans ck,func247.trans ck,func87.trans ck,func305.trans ck,func364.trans ck,func363.trans ck,func310.trans ck,func309.trans ck,func395.trans ck,func396.trans ck,func137.trans ck,func362.trans ck,func394.trans ck,func365.trans ck,underlying0,isAgg0,sizeOf0,zeroValue0,underlying3,isAgg3,sizeOf3,zeroValue3,underlying4,isAgg4,sizeOf4,zeroValue4,underlying5,isAgg5,sizeOf5,zeroValue5,underlying9,isAgg9,sizeOf9,zeroValue9,underlying20,isAgg20,sizeOf20,zeroValue20,underlying21,isAgg21,sizeOf21,zeroValue21,underlying51,isAgg51,sizeOf51,zeroValue51,underlying291,isAgg291,sizeOf291,zeroValue291,underlying335,isAgg335,sizeOf335,zeroValue335,underlying58,isAgg58,sizeOf58,zeroValue58,underlying60,isAgg60,sizeOf60,zeroValue60,underlying106,isAgg106,sizeOf106,zeroValue106,underlying107,isAgg107,sizeOf107,zeroValue107,underlying384,isAgg384,sizeOf384,zeroValue384,underlying332,isAgg332,sizeOf332,zeroValue332,underlying440,isAgg440,sizeOf440,underlying116,isAgg116,sizeOf116,zeroValue116,underlying442,isAgg442,sizeOf442,zeroValue442,underlying443,isAgg443,sizeOf443,zeroValue443,underlying444,isAgg444,sizeOf444,zeroValue444,underlying417,isAgg417,sizeOf417,zeroValue417,underlying210,isAgg210,sizeOf210,zeroValue210,underlying415,isAgg415,sizeOf415,zeroValue415,underlying455,isAgg455,sizeOf455,zeroValue455,underlying457,isAgg457,sizeOf457,zeroValue457,by kernel_rfl,by kernel_rfl,by kernel_rfl⟩
theorem Tryz.Builder_Extra_158:Builder.Extra Tryz.prog Tryz.lays158_ren:={
 sizeBuilder:=by kernel_rfl
 liesBuilder:=by kernel_rfl
 t5:=underlying5
 a5:=isAgg5
 z5:=sizeOf5
 v5:=zeroValue5
 infoByte:=by kernel_rfl
 cellsByte:=by kernel_rfl
 sizeByte:=by kernel_rfl
 neB5:=by decide }
open Go.RowKit in
theorem Tryz.strings_ToUpper_ascii (s:ByteArray) (w:World) (hs:s.size<=140737488355328) (hascii:∀ (j:Nat) (b:UInt8),s.data.toList[j]?=some b->b.toNat < 128):
  Calls Tryz.prog 186 #[.string s] w fun e w'=>e=.returned (.string ⟨(Lib.toUpperA s.data.toList).toArray⟩)/\Below w.heap.size w w':=Any.strings_ToUpper_ascii Tryz.lays158 Tryz.Builder_Extra_158 s w hs hascii
def Tryz.lays156_ren:Go.Shelf.Ren:=⟨fun |156=>387|165=>246|166=>46|169=>20|240=>87|241=>305|276=>137|277=>362|n=>n,fun |31=>180|9=>9|3=>3|4=>4|0=>0|20=>20|72=>60|76=>107|70=>58|37=>51|75=>106|127=>116|164=>210|5=>5|80=>72|n=>n,fun |n=>n⟩
theorem Tryz.lays156:Go.Proofs.Lays.n156 Tryz.prog Tryz.lays156_ren:=⟨by kernel_rfl,func387.trans ck,func246.trans ck,func46.trans ck,func20.trans ck,func87.trans ck,func305.trans ck,func137.trans ck,func362.trans ck,underlying0,isAgg0,sizeOf0,zeroValue0,underlying3,isAgg3,sizeOf3,zeroValue3,underlying4,isAgg4,sizeOf4,zeroValue4,underlying9,isAgg9,sizeOf9,zeroValue9,underlying20,isAgg20,sizeOf20,zeroValue20,underlying180,isAgg180,sizeOf180,zeroValue180,underlying51,isAgg51,sizeOf51,zeroValue51,underlying58,isAgg58,sizeOf58,zeroValue58,underlying60,isAgg60,sizeOf60,zeroValue60,underlying106,isAgg106,sizeOf106,zeroValue106,underlying107,isAgg107,sizeOf107,zeroValue107,underlying116,isAgg116,sizeOf116,zeroValue116,underlying210,isAgg210,sizeOf210,zeroValue210⟩
theorem Tryz.Builder_Extra_156:Builder.Extra Tryz.prog Tryz.lays156_ren:={
 sizeBuilder:=by kernel_rfl
 liesBuilder:=by kernel_rfl
 t5:=underlying5
 a5:=isAgg5
 z5:=sizeOf5
 v5:=zeroValue5
 infoByte:=by kernel_rfl
 cellsByte:=by kernel_rfl
 sizeByte:=by kernel_rfl
 neB5:=by decide }
open Go.RowKit in
theorem Tryz.strings_Join_none (a:Option Addr) (c:Nat) (sep:ByteArray) (w:World):
  Calls Tryz.prog 387 #[.slice a 0 c,.string sep] w fun e w'=>e=.returned (.string ⟨#[]⟩)/\w'=w:=Any.strings_Join_none Tryz.lays156 Tryz.Builder_Extra_156 a c sep w
open Go.RowKit in
theorem Tryz.strings_Join (bk o c:Nat) (xs:List ByteArray) (sep:ByteArray) (w:World) (hcells:∀ (j:Nat) x,xs[j]?=some x->w.cell? ⟨bk,o+j,none⟩=some (.string x)) (hbk:bk < w.heap.size) (hN:xs.length<=140737488355328) (hcap:xs.length<=c) (hlen:(Lib.join (xs.map (·.data.toList)) sep.data.toList).length<=140737488355328):
  Calls Tryz.prog 387 #[.slice (some ⟨bk,o,none⟩) xs.length c,.string sep] w fun e w'=>e=.returned (.string ⟨(Lib.join (xs.map (·.data.toList)) sep.data.toList).toArray⟩)/\Below w.heap.size w w':=Any.strings_Join Tryz.lays156 Tryz.Builder_Extra_156 bk o c xs sep w hcells hbk hN hcap hlen
def Tryz.laysM173_ren:Go.Shelf.Ren:=⟨fun |173=>243|246=>138|283=>188|284=>189|285=>190|286=>191|129=>250|317=>249|318=>251|319=>252|320=>253|337=>311|338=>312|n=>n,fun |2=>2|3=>3|9=>9|4=>4|171=>268|0=>0|53=>156|37=>51|5=>5|173=>271|212=>334|51=>335|20=>20|213=>336|46=>291|232=>418|233=>419|n=>n,fun |17=>3|18=>5|19=>6|n=>n⟩
theorem Tryz.laysM173:Go.Proofs.LaysM.n173 Tryz.prog Tryz.laysM173_ren:={
 mixed:=by kernel_rfl
 f129:=func250.trans ck
 f173:=func243.trans ck
 f246:=func138.trans ck
 f283:=func188.trans ck
 f284:=func189.trans ck
 f285:=func190.trans ck
 f286:=func191.trans ck
 f317:=func249.trans ck
 f318:=func251.trans ck
 f319:=func252.trans ck
 f320:=func253.trans ck
 f337:=func311.trans ck
 f338:=func312.trans ck
 t0:=underlying0
 a0:=isAgg0
 z0:=sizeOf0
 v0:=zeroValue0
 t2:=underlying2
 a2:=isAgg2
 z2:=sizeOf2
 v2:=zeroValue2
 t3:=underlying3
 a3:=isAgg3
 z3:=sizeOf3
 v3:=zeroValue3
 t4:=underlying4
 a4:=isAgg4
 z4:=sizeOf4
 v4:=zeroValue4
 t5:=underlying5
 a5:=isAgg5
 z5:=sizeOf5
 v5:=zeroValue5
 t9:=underlying9
 a9:=isAgg9
 z9:=sizeOf9
 v9:=zeroValue9
 t20:=underlying20
 a20:=isAgg20
 z20:=sizeOf20
 v20:=zeroValue20
 t37:=underlying51
 a37:=isAgg51
 z37:=sizeOf51
 v37:=zeroValue51
 t46:=underlying291
 a46:=isAgg291
 z46:=sizeOf291
 v46:=zeroValue291
 t51:=underlying335
 a51:=isAgg335
 z51:=sizeOf335
 v51:=zeroValue335
 t53:=underlying156
 a53:=isAgg156
 z53:=sizeOf156
 v53:=zeroValue156
 t171:=underlying268
 a171:=isAgg268
 z171:=sizeOf268
 v171:=zeroValue268
 t173:=underlying271
 a173:=isAgg271
 z173:=sizeOf271
 v173:=zeroValue271
 t212:=underlying334
 a212:=isAgg334
 z212:=sizeOf334
 v212:=zeroValue334
 t213:=underlying336
 a213:=isAgg336
 z213:=sizeOf336
 t232:=underlying418
 a232:=isAgg418
 z232:=sizeOf418
 v232:=zeroValue418
 t233:=underlying419
 a233:=isAgg419
 z233:=sizeOf419
 v233:=zeroValue419
 g17:=by kernel_rfl
 g18:=by kernel_rfl
 g19:=by kernel_rfl
 i0:=by kernel_rfl
 i2:=by kernel_rfl
 i3:=by kernel_rfl
 i4:=by kernel_rfl
 i5:=by kernel_rfl
 i9:=by kernel_rfl
 i20:=by kernel_rfl
 i37:=by kernel_rfl
 i46:=by kernel_rfl
 i51:=by kernel_rfl
 i53:=by kernel_rfl
 i171:=by kernel_rfl
 i173:=by kernel_rfl
 i212:=by kernel_rfl
 i232:=by kernel_rfl
 i233:=by kernel_rfl
 m17:=by kernel_rfl
 m18:=by kernel_rfl
 m19:=by kernel_rfl }
open Go.RowKit Go.Sort Go.Lib in
theorem Tryz.strconv_FormatInt_10 (n:Int) (h0:-9223372036854775808<=n) (h1:n<=9223372036854775807) (w:World) (htab:Lib.TabIs Tryz.prog w "internal/strconv.uint64pow10" .u64 Lib.pow10Tab):
  Calls Tryz.prog 243 #[.int .i64 n,.int .i64 10] w fun e w'=>e=.returned (.string ⟨(Lib.itoa n).toArray⟩)/\∃ k os,w'=grow (w.drewN k) os:=Any.strconv_FormatInt_10 Tryz.laysM173 n h0 h1 w htab
def Tryz.lays144_ren:Go.Shelf.Ren:=⟨fun |144=>257|143=>316|219=>144|217=>197|225=>198|224=>199|267=>200|266=>260|314=>261|n=>n,fun |9=>9|4=>4|3=>3|5=>5|46=>291|146=>344|51=>335|n=>n,fun |1=>0|n=>n⟩
theorem Tryz.lays144:Go.Proofs.Lays.n144 Tryz.prog Tryz.lays144_ren:=⟨by kernel_rfl,func316.trans ck,func257.trans ck,func197.trans ck,func144.trans ck,func199.trans ck,func198.trans ck,func260.trans ck,func200.trans ck,func261.trans ck,underlying3,isAgg3,sizeOf3,zeroValue3,underlying4,isAgg4,sizeOf4,zeroValue4,underlying5,isAgg5,sizeOf5,zeroValue5,underlying9,isAgg9,sizeOf9,zeroValue9,underlying291,isAgg291,sizeOf291,zeroValue291,underlying335,isAgg335,sizeOf335,zeroValue335,underlying344,isAgg344,sizeOf344,zeroValue344,by kernel_rfl⟩
open Go.RowKit Go.Lib in
theorem Tryz.strings_Contains_one (s:ByteArray) (c:UInt8) (w:World):
  Calls Tryz.prog 257 #[.string s,.string ⟨#[c]⟩] w fun e w'=>e=.returned (.bool (decide (0<=Lib.indexByte s.data.toList c)))/\w'=w:=Any.strings_Contains_one Tryz.lays144 s c w
def Tryz.laysGw15_ren:Go.Shelf.Ren:=⟨fun |15=>136|20=>187|n=>n,fun |9=>9|23=>208|3=>3|4=>4|0=>0|21=>21|n=>n,fun |n=>n⟩
theorem Tryz.laysGw15:Go.Proofs.LaysGw.n15 Tryz.prog Tryz.laysGw15_ren:=⟨by kernel_rfl,func136.trans ck,func187.trans ck,underlying0,isAgg0,sizeOf0,zeroValue0,by kernel_rfl,underlying3,isAgg3,sizeOf3,zeroValue3,by kernel_rfl,underlying4,isAgg4,sizeOf4,zeroValue4,by kernel_rfl,underlying9,isAgg9,sizeOf9,zeroValue9,by kernel_rfl,underlying21,isAgg21,sizeOf21,zeroValue21,by kernel_rfl,underlying208,isAgg208,sizeOf208,zeroValue208,by kernel_rfl⟩
def Tryz.lays155_ren:Go.Shelf.Ren:=⟨fun |155=>244|154=>304|138=>361|165=>246|143=>316|166=>46|197=>306|169=>20|195=>392|218=>393|240=>87|241=>305|219=>144|260=>363|276=>137|277=>362|217=>197|225=>198|224=>199|267=>200|266=>260|314=>261|n=>n,fun |9=>9|3=>3|4=>4|72=>60|0=>0|76=>107|105=>384|21=>21|5=>5|70=>58|20=>20|37=>51|75=>106|127=>116|164=>210|46=>291|119=>440|139=>443|138=>442|146=>344|51=>335|80=>72|n=>n,fun |1=>0|3=>8|4=>9|n=>n⟩
theorem Tryz.lays155:Go.Proofs.Lays.n155 Tryz.prog Tryz.lays155_ren:=⟨by kernel_rfl,func361.trans ck,func316.trans ck,func304.trans ck,func244.trans ck,func246.trans ck,func46.trans ck,func20.trans ck,func392.trans ck,func306.trans ck,func197.trans ck,func393.trans ck,func144.trans ck,func199.trans ck,func198.trans ck,func87.trans ck,func305.trans ck,func363.trans ck,func260.trans ck,func200.trans ck,func137.trans ck,func362.trans ck,func261.trans ck,underlying0,isAgg0,sizeOf0,zeroValue0,underlying3,isAgg3,sizeOf3,zeroValue3,underlying4,isAgg4,sizeOf4,zeroValue4,underlying5,isAgg5,sizeOf5,zeroValue5,underlying9,isAgg9,sizeOf9,zeroValue9,underlying20,isAgg20,sizeOf20,zeroValue20,underlying21,isAgg21,sizeOf21,zeroValue21,underlying51,isAgg51,sizeOf51,zeroValue51,underlying291,isAgg291,sizeOf291,zeroValue291,underlying335,isAgg335,sizeOf335,zeroValue335,underlying58,isAgg58,sizeOf58,zeroValue58,underlying60,isAgg60,sizeOf60,zeroValue60,underlying106,isAgg106,sizeOf106,zeroValue106,underlying107,isAgg107,sizeOf107,zeroValue107,underlying384,isAgg384,sizeOf384,zeroValue384,underlying440,isAgg440,sizeOf440,underlying116,isAgg116,sizeOf116,zeroValue116,underlying442,isAgg442,sizeOf442,zeroValue442,underlying443,isAgg443,sizeOf443,zeroValue443,underlying344,isAgg344,sizeOf344,zeroValue344,underlying210,isAgg210,sizeOf210,zeroValue210,by kernel_rfl,by kernel_rfl,by kernel_rfl⟩
theorem Tryz.Builder_Extra_155:Builder.Extra Tryz.prog Tryz.lays155_ren:={
 sizeBuilder:=by kernel_rfl
 liesBuilder:=by kernel_rfl
 t5:=underlying5
 a5:=isAgg5
 z5:=sizeOf5
 v5:=zeroValue5
 infoByte:=by kernel_rfl
 cellsByte:=by kernel_rfl
 sizeByte:=by kernel_rfl
 neB5:=by decide }
open Go.RowKit Go.Lib in
theorem Tryz.strings_ReplaceAll (s old new:ByteArray) (m:Int) (w:World) (hs:s.size < 4294967281) (hm:w.cell? ⟨0,0,none⟩=some (.int .i64 m)) (h1:1<=old.size) (hlen:s.size+Lib.countB s old * new.size<=140737488355328):
  Calls Tryz.prog 244 #[.string s,.string old,.string new] w fun e w'=>
   e=.returned (.string ⟨(Lib.replaceAll s.data.toList old.data.toList new.data.toList).toArray⟩)/\Below w.heap.size w w':=Any.strings_ReplaceAll Tryz.lays155 Tryz.Builder_Extra_155 s old new m w hs hm h1 hlen
open Go.RowKit Go.Lib in
theorem Tryz.strings_IndexFunc_grows (g:Nat) (lb:Array Value) (eg:∀ args w,(callFunc g args).run Tryz.prog w=.ok (.enter g args) w) (p:Nat->Bool) (s:ByteArray) (w:World) (hp:PredGrows Tryz.prog g lb p w):
  Calls Tryz.prog 136 #[.string s,.func (.func g) #[] lb] w fun e w'=>e=.returned (.int .i64 (Lib.idxFunc p true s))/\Below w.heap.size w w':=Any.strings_IndexFunc_grows Tryz.laysGw15 g lb eg p s w hp
end Go.Proofs
