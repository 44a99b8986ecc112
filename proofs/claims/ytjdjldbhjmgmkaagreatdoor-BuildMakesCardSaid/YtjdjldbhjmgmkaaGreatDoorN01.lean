/- The library's contracts at this program (written by the kit's own tool). -/
import Derived.Shelf.Strings.OnBuilder
import Derived.Shelf.Small.Strs
import Derived.Shelf.Small.Wraps
import Derived.Shelf.Utf8.RuneCount
import Derived.Shelf.Strconv.Itoa4
import Derived.Shelf.Strings.Shaped
import Derived.Shelf.Strings.SplitShaped
import Derived.Shelf.Unicode.Decode
import Derived.Shelf.Strings.RuneCount
import Derived.Shelf.Unicode.CaseLaid
import Derived.Shelf.Strings.FuncGrows
import Derived.Shelf.Slices.SearchI
import Derived.Test.YtjdjldbhjmgmkaaGreatDoorProg
namespace Go.Proofs
open Go.Shelf Tryz
set_option maxRecDepth 9999
theorem ck{α:Type}{a b:α}(h:a=b:=by kernel_rfl):some a=some b:=congrArg some h
def Tryz.lays158_ren:Go.Shelf.Ren:=⟨fun |158=>291|165=>324|166=>325|167=>326|169=>327|230=>328|203=>329|240=>346|241=>347|197=>348|118=>349|168=>350|270=>351|262=>352|276=>361|277=>362|260=>363|242=>364|313=>365|278=>373|274=>374|275=>375|n=>n,fun |9=>9|4=>4|3=>3|5=>5|72=>337|0=>0|76=>341|75=>340|107=>345|70=>335|20=>20|37=>23|127=>359|21=>21|105=>360|164=>369|162=>375|203=>373|119=>383|46=>219|139=>386|138=>385|51=>56|160=>387|208=>396|206=>394|80=>142|n=>n,fun |13=>2|3=>3|4=>4|n=>n⟩
theorem Tryz.lays158:Go.Proofs.Lays.n158 Tryz.prog Tryz.lays158_ren:=⟨by kernel_rfl,func349.trans ck,func291.trans ck,func324.trans ck,func325.trans ck,func326.trans ck,func350.trans ck,func327.trans ck,func348.trans ck,func329.trans ck,func328.trans ck,func346.trans ck,func347.trans ck,func364.trans ck,func363.trans ck,func352.trans ck,func351.trans ck,func374.trans ck,func375.trans ck,func361.trans ck,func362.trans ck,func373.trans ck,func365.trans ck,underlying0,isAgg0,sizeOf0,zeroValue0,underlying3,isAgg3,sizeOf3,zeroValue3,underlying4,isAgg4,sizeOf4,zeroValue4,underlying5,isAgg5,sizeOf5,zeroValue5,underlying9,isAgg9,sizeOf9,zeroValue9,underlying20,isAgg20,sizeOf20,zeroValue20,underlying21,isAgg21,sizeOf21,zeroValue21,underlying23,isAgg23,sizeOf23,zeroValue23,underlying219,isAgg219,sizeOf219,zeroValue219,underlying56,isAgg56,sizeOf56,zeroValue56,underlying335,isAgg335,sizeOf335,zeroValue335,underlying337,isAgg337,sizeOf337,zeroValue337,underlying340,isAgg340,sizeOf340,zeroValue340,underlying341,isAgg341,sizeOf341,zeroValue341,underlying360,isAgg360,sizeOf360,zeroValue360,underlying345,isAgg345,sizeOf345,zeroValue345,underlying383,isAgg383,sizeOf383,underlying359,isAgg359,sizeOf359,zeroValue359,underlying385,isAgg385,sizeOf385,zeroValue385,underlying386,isAgg386,sizeOf386,zeroValue386,underlying387,isAgg387,sizeOf387,zeroValue387,underlying375,isAgg375,sizeOf375,zeroValue375,underlying369,isAgg369,sizeOf369,zeroValue369,underlying373,isAgg373,sizeOf373,zeroValue373,underlying394,isAgg394,sizeOf394,zeroValue394,underlying396,isAgg396,sizeOf396,zeroValue396,by kernel_rfl,by kernel_rfl,by kernel_rfl⟩
theorem Tryz.Builder_Extra_158:Builder.Extra Tryz.prog Tryz.lays158_ren:={
 sizeBuilder:=by kernel_rfl
 liesBuilder:=by kernel_rfl
 t5:=underlying5
 a5:=isAgg5
 z5:=sizeOf5
 v5:=zeroValue5
 infoByte:=by kernel_rfl
 cellsByte:=by kernel_rfl
 sizeByte:=by kernel_rfl
 neB5:=by decide }
open Go.RowKit in
theorem Tryz.strings_ToUpper_ascii (s:ByteArray) (w:World) (hs:s.size<=140737488355328) (hascii:∀ (j:Nat) (b:UInt8),s.data.toList[j]?=some b->b.toNat < 128):
  Calls Tryz.prog 291 #[.string s] w fun e w'=>e=.returned (.string ⟨(Lib.toUpperA s.data.toList).toArray⟩)/\Below w.heap.size w w':=Any.strings_ToUpper_ascii Tryz.lays158 Tryz.Builder_Extra_158 s w hs hascii
def Tryz.lays156_ren:Go.Shelf.Ren:=⟨fun |156=>332|165=>324|166=>325|169=>327|240=>346|241=>347|276=>361|277=>362|n=>n,fun |31=>45|9=>9|3=>3|4=>4|0=>0|20=>20|72=>337|76=>341|70=>335|37=>23|75=>340|127=>359|164=>369|5=>5|80=>142|n=>n,fun |n=>n⟩
theorem Tryz.lays156:Go.Proofs.Lays.n156 Tryz.prog Tryz.lays156_ren:=⟨by kernel_rfl,func332.trans ck,func324.trans ck,func325.trans ck,func327.trans ck,func346.trans ck,func347.trans ck,func361.trans ck,func362.trans ck,underlying0,isAgg0,sizeOf0,zeroValue0,underlying3,isAgg3,sizeOf3,zeroValue3,underlying4,isAgg4,sizeOf4,zeroValue4,underlying9,isAgg9,sizeOf9,zeroValue9,underlying20,isAgg20,sizeOf20,zeroValue20,underlying45,isAgg45,sizeOf45,zeroValue45,underlying23,isAgg23,sizeOf23,zeroValue23,underlying335,isAgg335,sizeOf335,zeroValue335,underlying337,isAgg337,sizeOf337,zeroValue337,underlying340,isAgg340,sizeOf340,zeroValue340,underlying341,isAgg341,sizeOf341,zeroValue341,underlying359,isAgg359,sizeOf359,zeroValue359,underlying369,isAgg369,sizeOf369,zeroValue369⟩
theorem Tryz.Builder_Extra_156:Builder.Extra Tryz.prog Tryz.lays156_ren:={
 sizeBuilder:=by kernel_rfl
 liesBuilder:=by kernel_rfl
 t5:=underlying5
 a5:=isAgg5
 z5:=sizeOf5
 v5:=zeroValue5
 infoByte:=by kernel_rfl
 cellsByte:=by kernel_rfl
 sizeByte:=by kernel_rfl
 neB5:=by decide }
open Go.RowKit in
theorem Tryz.strings_Join_none (a:Option Addr) (c:Nat) (sep:ByteArray) (w:World):
  Calls Tryz.prog 332 #[.slice a 0 c,.string sep] w fun e w'=>e=.returned (.string ⟨#[]⟩)/\w'=w:=Any.strings_Join_none Tryz.lays156 Tryz.Builder_Extra_156 a c sep w
open Go.RowKit in
theorem Tryz.strings_Join (bk o c:Nat) (xs:List ByteArray) (sep:ByteArray) (w:World) (hcells:∀ (j:Nat) x,xs[j]?=some x->w.cell? ⟨bk,o+j,none⟩=some (.string x)) (hbk:bk < w.heap.size) (hN:xs.length<=140737488355328) (hcap:xs.length<=c) (hlen:(Lib.join (xs.map (·.data.toList)) sep.data.toList).length<=140737488355328):
  Calls Tryz.prog 332 #[.slice (some ⟨bk,o,none⟩) xs.length c,.string sep] w fun e w'=>e=.returned (.string ⟨(Lib.join (xs.map (·.data.toList)) sep.data.toList).toArray⟩)/\Below w.heap.size w w':=Any.strings_Join Tryz.lays156 Tryz.Builder_Extra_156 bk o c xs sep w hcells hbk hN hcap hlen
def Tryz.laysM173_ren:Go.Shelf.Ren:=⟨fun |173=>333|246=>353|283=>366|284=>367|285=>368|286=>369|129=>220|317=>376|318=>377|319=>378|320=>379|337=>382|338=>383|n=>n,fun |2=>2|3=>3|9=>9|4=>4|171=>377|0=>0|53=>268|37=>23|5=>5|173=>379|212=>391|51=>56|20=>20|213=>392|46=>219|232=>397|233=>398|n=>n,fun |17=>5|18=>6|19=>7|n=>n⟩
theorem Tryz.laysM173:Go.Proofs.LaysM.n173 Tryz.prog Tryz.laysM173_ren:={
 mixed:=by kernel_rfl
 f129:=func220.trans ck
 f173:=func333.trans ck
 f246:=func353.trans ck
 f283:=func366.trans ck
 f284:=func367.trans ck
 f285:=func368.trans ck
 f286:=func369.trans ck
 f317:=func376.trans ck
 f318:=func377.trans ck
 f319:=func378.trans ck
 f320:=func379.trans ck
 f337:=func382.trans ck
 f338:=func383.trans ck
 t0:=underlying0
 a0:=isAgg0
 z0:=sizeOf0
 v0:=zeroValue0
 t2:=underlying2
 a2:=isAgg2
 z2:=sizeOf2
 v2:=zeroValue2
 t3:=underlying3
 a3:=isAgg3
 z3:=sizeOf3
 v3:=zeroValue3
 t4:=underlying4
 a4:=isAgg4
 z4:=sizeOf4
 v4:=zeroValue4
 t5:=underlying5
 a5:=isAgg5
 z5:=sizeOf5
 v5:=zeroValue5
 t9:=underlying9
 a9:=isAgg9
 z9:=sizeOf9
 v9:=zeroValue9
 t20:=underlying20
 a20:=isAgg20
 z20:=sizeOf20
 v20:=zeroValue20
 t37:=underlying23
 a37:=isAgg23
 z37:=sizeOf23
 v37:=zeroValue23
 t46:=underlying219
 a46:=isAgg219
 z46:=sizeOf219
 v46:=zeroValue219
 t51:=underlying56
 a51:=isAgg56
 z51:=sizeOf56
 v51:=zeroValue56
 t53:=underlying268
 a53:=isAgg268
 z53:=sizeOf268
 v53:=zeroValue268
 t171:=underlying377
 a171:=isAgg377
 z171:=sizeOf377
 v171:=zeroValue377
 t173:=underlying379
 a173:=isAgg379
 z173:=sizeOf379
 v173:=zeroValue379
 t212:=underlying391
 a212:=isAgg391
 z212:=sizeOf391
 v212:=zeroValue391
 t213:=underlying392
 a213:=isAgg392
 z213:=sizeOf392
 t232:=underlying397
 a232:=isAgg397
 z232:=sizeOf397
 v232:=zeroValue397
 t233:=underlying398
 a233:=isAgg398
 z233:=sizeOf398
 v233:=zeroValue398
 g17:=by kernel_rfl
 g18:=by kernel_rfl
 g19:=by kernel_rfl
 i0:=by kernel_rfl
 i2:=by kernel_rfl
 i3:=by kernel_rfl
 i4:=by kernel_rfl
 i5:=by kernel_rfl
 i9:=by kernel_rfl
 i20:=by kernel_rfl
 i37:=by kernel_rfl
 i46:=by kernel_rfl
 i51:=by kernel_rfl
 i53:=by kernel_rfl
 i171:=by kernel_rfl
 i173:=by kernel_rfl
 i212:=by kernel_rfl
 i232:=by kernel_rfl
 i233:=by kernel_rfl
 m17:=by kernel_rfl
 m18:=by kernel_rfl
 m19:=by kernel_rfl }
open Go.RowKit Go.Sort Go.Lib in
theorem Tryz.strconv_FormatInt_10 (n:Int) (h0:-9223372036854775808<=n) (h1:n<=9223372036854775807) (w:World) (htab:Lib.TabIs Tryz.prog w "internal/strconv.uint64pow10" .u64 Lib.pow10Tab):
  Calls Tryz.prog 333 #[.int .i64 n,.int .i64 10] w fun e w'=>e=.returned (.string ⟨(Lib.itoa n).toArray⟩)/\∃ k os,w'=grow (w.drewN k) os:=Any.strconv_FormatInt_10 Tryz.laysM173 n h0 h1 w htab
def Tryz.lays144_ren:Go.Shelf.Ren:=⟨fun |144=>268|143=>306|219=>337|217=>356|225=>357|224=>358|267=>359|266=>371|314=>372|n=>n,fun |9=>9|4=>4|3=>3|5=>5|46=>219|146=>381|51=>56|n=>n,fun |1=>0|n=>n⟩
theorem Tryz.lays144:Go.Proofs.Lays.n144 Tryz.prog Tryz.lays144_ren:=⟨by kernel_rfl,func306.trans ck,func268.trans ck,func356.trans ck,func337.trans ck,func358.trans ck,func357.trans ck,func371.trans ck,func359.trans ck,func372.trans ck,underlying3,isAgg3,sizeOf3,zeroValue3,underlying4,isAgg4,sizeOf4,zeroValue4,underlying5,isAgg5,sizeOf5,zeroValue5,underlying9,isAgg9,sizeOf9,zeroValue9,underlying219,isAgg219,sizeOf219,zeroValue219,underlying56,isAgg56,sizeOf56,zeroValue56,underlying381,isAgg381,sizeOf381,zeroValue381,by kernel_rfl⟩
open Go.RowKit Go.Lib in
theorem Tryz.strings_Contains_one (s:ByteArray) (c:UInt8) (w:World):
  Calls Tryz.prog 268 #[.string s,.string ⟨#[c]⟩] w fun e w'=>e=.returned (.bool (decide (0<=Lib.indexByte s.data.toList c)))/\w'=w:=Any.strings_Contains_one Tryz.lays144 s c w
def Tryz.laysGw15_ren:Go.Shelf.Ren:=⟨fun |15=>99|20=>164|n=>n,fun |9=>9|23=>170|3=>3|4=>4|0=>0|21=>21|n=>n,fun |n=>n⟩
theorem Tryz.laysGw15:Go.Proofs.LaysGw.n15 Tryz.prog Tryz.laysGw15_ren:=⟨by kernel_rfl,func99.trans ck,func164.trans ck,underlying0,isAgg0,sizeOf0,zeroValue0,by kernel_rfl,underlying3,isAgg3,sizeOf3,zeroValue3,by kernel_rfl,underlying4,isAgg4,sizeOf4,zeroValue4,by kernel_rfl,underlying9,isAgg9,sizeOf9,zeroValue9,by kernel_rfl,underlying21,isAgg21,sizeOf21,zeroValue21,by kernel_rfl,underlying170,isAgg170,sizeOf170,zeroValue170,by kernel_rfl⟩
def Tryz.lays155_ren:Go.Shelf.Ren:=⟨fun |155=>334|154=>354|138=>370|165=>324|143=>306|166=>325|197=>348|169=>327|195=>380|218=>381|240=>346|241=>347|219=>337|260=>363|276=>361|277=>362|217=>356|225=>357|224=>358|267=>359|266=>371|314=>372|n=>n,fun |9=>9|3=>3|4=>4|72=>337|0=>0|76=>341|105=>360|21=>21|5=>5|70=>335|20=>20|37=>23|75=>340|127=>359|164=>369|46=>219|119=>383|139=>386|138=>385|146=>381|51=>56|80=>142|n=>n,fun |1=>0|3=>3|4=>4|n=>n⟩
theorem Tryz.lays155:Go.Proofs.Lays.n155 Tryz.prog Tryz.lays155_ren:=⟨by kernel_rfl,func370.trans ck,func306.trans ck,func354.trans ck,func334.trans ck,func324.trans ck,func325.trans ck,func327.trans ck,func380.trans ck,func348.trans ck,func356.trans ck,func381.trans ck,func337.trans ck,func358.trans ck,func357.trans ck,func346.trans ck,func347.trans ck,func363.trans ck,func371.trans ck,func359.trans ck,func361.trans ck,func362.trans ck,func372.trans ck,underlying0,isAgg0,sizeOf0,zeroValue0,underlying3,isAgg3,sizeOf3,zeroValue3,underlying4,isAgg4,sizeOf4,zeroValue4,underlying5,isAgg5,sizeOf5,zeroValue5,underlying9,isAgg9,sizeOf9,zeroValue9,underlying20,isAgg20,sizeOf20,zeroValue20,underlying21,isAgg21,sizeOf21,zeroValue21,underlying23,isAgg23,sizeOf23,zeroValue23,underlying219,isAgg219,sizeOf219,zeroValue219,underlying56,isAgg56,sizeOf56,zeroValue56,underlying335,isAgg335,sizeOf335,zeroValue335,underlying337,isAgg337,sizeOf337,zeroValue337,underlying340,isAgg340,sizeOf340,zeroValue340,underlying341,isAgg341,sizeOf341,zeroValue341,underlying360,isAgg360,sizeOf360,zeroValue360,underlying383,isAgg383,sizeOf383,underlying359,isAgg359,sizeOf359,zeroValue359,underlying385,isAgg385,sizeOf385,zeroValue385,underlying386,isAgg386,sizeOf386,zeroValue386,underlying381,isAgg381,sizeOf381,zeroValue381,underlying369,isAgg369,sizeOf369,zeroValue369,by kernel_rfl,by kernel_rfl,by kernel_rfl⟩
theorem Tryz.Builder_Extra_155:Builder.Extra Tryz.prog Tryz.lays155_ren:={
 sizeBuilder:=by kernel_rfl
 liesBuilder:=by kernel_rfl
 t5:=underlying5
 a5:=isAgg5
 z5:=sizeOf5
 v5:=zeroValue5
 infoByte:=by kernel_rfl
 cellsByte:=by kernel_rfl
 sizeByte:=by kernel_rfl
 neB5:=by decide }
open Go.RowKit Go.Lib in
theorem Tryz.strings_ReplaceAll (s old new:ByteArray) (m:Int) (w:World) (hs:s.size < 4294967281) (hm:w.cell? ⟨0,0,none⟩=some (.int .i64 m)) (h1:1<=old.size) (hlen:s.size+Lib.countB s old * new.size<=140737488355328):
  Calls Tryz.prog 334 #[.string s,.string old,.string new] w fun e w'=>
   e=.returned (.string ⟨(Lib.replaceAll s.data.toList old.data.toList new.data.toList).toArray⟩)/\Below w.heap.size w w':=Any.strings_ReplaceAll Tryz.lays155 Tryz.Builder_Extra_155 s old new m w hs hm h1 hlen
open Go.RowKit Go.Lib in
theorem Tryz.strings_IndexFunc_grows (g:Nat) (lb:Array Value) (eg:∀ args w,(callFunc g args).run Tryz.prog w=.ok (.enter g args) w) (p:Nat->Bool) (s:ByteArray) (w:World) (hp:PredGrows Tryz.prog g lb p w):
  Calls Tryz.prog 99 #[.string s,.func (.func g) #[] lb] w fun e w'=>e=.returned (.int .i64 (Lib.idxFunc p true s))/\Below w.heap.size w w':=Any.strings_IndexFunc_grows Tryz.laysGw15 g lb eg p s w hp
end Go.Proofs
