/- The library's contracts at this program (written by the kit's own tool). -/
import Derived.Test.YtgcekmmgphhofaaGreatDoorR01
namespace Go.Proofs
open Go.Shelf Tryz
set_option maxRecDepth 9999
def Tryz.laysM171_ren:Go.Shelf.Ren:=⟨fun |171=>47|243=>88|246=>138|283=>188|284=>189|285=>190|286=>191|129=>250|317=>249|318=>251|319=>252|320=>253|337=>311|338=>312|n=>n,fun |3=>3|9=>9|2=>2|4=>4|171=>268|0=>0|53=>156|37=>51|5=>5|173=>271|212=>334|51=>335|20=>20|213=>336|46=>291|232=>418|233=>419|n=>n,fun |17=>3|18=>5|19=>6|n=>n⟩
theorem Tryz.laysM171:Go.Proofs.LaysM.n171 Tryz.prog Tryz.laysM171_ren:={
 mixed:=by kernel_rfl
 f129:=func250.trans ck
 f171:=func47.trans ck
 f243:=func88.trans ck
 f246:=func138.trans ck
 f283:=func188.trans ck
 f284:=func189.trans ck
 f285:=func190.trans ck
 f286:=func191.trans ck
 f317:=func249.trans ck
 f318:=func251.trans ck
 f319:=func252.trans ck
 f320:=func253.trans ck
 f337:=func311.trans ck
 f338:=func312.trans ck
 t0:=underlying0
 a0:=isAgg0
 z0:=sizeOf0
 v0:=zeroValue0
 t2:=underlying2
 a2:=isAgg2
 z2:=sizeOf2
 v2:=zeroValue2
 t3:=underlying3
 a3:=isAgg3
 z3:=sizeOf3
 v3:=zeroValue3
 t4:=underlying4
 a4:=isAgg4
 z4:=sizeOf4
 v4:=zeroValue4
 t5:=underlying5
 a5:=isAgg5
 z5:=sizeOf5
 v5:=zeroValue5
 t9:=underlying9
 a9:=isAgg9
 z9:=sizeOf9
 v9:=zeroValue9
 t20:=underlying20
 a20:=isAgg20
 z20:=sizeOf20
 v20:=zeroValue20
 t37:=underlying51
 a37:=isAgg51
 z37:=sizeOf51
 v37:=zeroValue51
 t46:=underlying291
 a46:=isAgg291
 z46:=sizeOf291
 v46:=zeroValue291
 t51:=underlying335
 a51:=isAgg335
 z51:=sizeOf335
 v51:=zeroValue335
 t53:=underlying156
 a53:=isAgg156
 z53:=sizeOf156
 v53:=zeroValue156
 t171:=underlying268
 a171:=isAgg268
 z171:=sizeOf268
 v171:=zeroValue268
 t173:=underlying271
 a173:=isAgg271
 z173:=sizeOf271
 v173:=zeroValue271
 t212:=underlying334
 a212:=isAgg334
 z212:=sizeOf334
 v212:=zeroValue334
 t213:=underlying336
 a213:=isAgg336
 z213:=sizeOf336
 t232:=underlying418
 a232:=isAgg418
 z232:=sizeOf418
 v232:=zeroValue418
 t233:=underlying419
 a233:=isAgg419
 z233:=sizeOf419
 v233:=zeroValue419
 g17:=by kernel_rfl
 g18:=by kernel_rfl
 g19:=by kernel_rfl
 i0:=by kernel_rfl
 i2:=by kernel_rfl
 i3:=by kernel_rfl
 i4:=by kernel_rfl
 i5:=by kernel_rfl
 i9:=by kernel_rfl
 i20:=by kernel_rfl
 i37:=by kernel_rfl
 i46:=by kernel_rfl
 i51:=by kernel_rfl
 i53:=by kernel_rfl
 i171:=by kernel_rfl
 i173:=by kernel_rfl
 i212:=by kernel_rfl
 i232:=by kernel_rfl
 i233:=by kernel_rfl
 m17:=by kernel_rfl
 m18:=by kernel_rfl
 m19:=by kernel_rfl }
open Go.RowKit Go.Sort Go.Lib in
theorem Tryz.strconv_Itoa (n:Int) (h0:-9223372036854775808<=n) (h1:n<=9223372036854775807) (w:World) (htab:Lib.TabIs Tryz.prog w "internal/strconv.uint64pow10" .u64 Lib.pow10Tab):
  Calls Tryz.prog 47 #[.int .i64 n] w fun e w'=>e=.returned (.string ⟨(Lib.itoa n).toArray⟩)/\∃ k os,w'=grow (w.drewN k) os:=Any.strconv_Itoa Tryz.laysM171 n h0 h1 w htab
def Tryz.lays145_ren:Go.Shelf.Ren:=⟨fun |145=>63|220=>98|219=>144|217=>197|225=>198|224=>199|267=>200|266=>260|314=>261|n=>n,fun |9=>9|4=>4|59=>126|3=>3|5=>5|46=>291|146=>344|51=>335|n=>n,fun |1=>0|n=>n⟩
theorem Tryz.lays145:Go.Proofs.Lays.n145 Tryz.prog Tryz.lays145_ren:=⟨by kernel_rfl,func63.trans ck,func197.trans ck,func144.trans ck,func98.trans ck,func199.trans ck,func198.trans ck,func260.trans ck,func200.trans ck,func261.trans ck,underlying3,isAgg3,sizeOf3,zeroValue3,underlying4,isAgg4,sizeOf4,zeroValue4,underlying5,isAgg5,sizeOf5,zeroValue5,underlying9,isAgg9,sizeOf9,zeroValue9,underlying291,isAgg291,sizeOf291,zeroValue291,underlying335,isAgg335,sizeOf335,zeroValue335,underlying126,isAgg126,sizeOf126,zeroValue126,underlying344,isAgg344,sizeOf344,zeroValue344,by kernel_rfl⟩
open Go.RowKit Go.Lib in
theorem Tryz.strings_Cut (s sep:ByteArray) (m:Int) (w:World) (hs:s.size < 4294967281) (hm:w.cell? ⟨0,0,none⟩=some (.int .i64 m)):
  Calls Tryz.prog 63 #[.string s,.string sep] w fun e w'=>e=.returned (.tuple #[.string ⟨(Lib.cut s.data.toList sep.data.toList).1.toArray⟩,.string ⟨(Lib.cut s.data.toList sep.data.toList).2.1.toArray⟩,.bool (Lib.cut s.data.toList sep.data.toList).2.2])/\∃ n,w'=w.drewN n:=Any.strings_Cut Tryz.lays145 s sep m w hs hm
end Go.Proofs
