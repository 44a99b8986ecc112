/- The library's contracts at this program (written by the kit's own tool). -/
import Derived.Shelf.Strings.OnBuilder
import Derived.Shelf.Small.Strs
import Derived.Shelf.Small.Wraps
import Derived.Shelf.Strconv.Itoa4
import Derived.Shelf.Strings.Shaped
import Derived.Shelf.Strings.SplitShaped
import Derived.Shelf.Unicode.Decode
import Derived.Shelf.Strings.RuneCount
import Derived.Shelf.Unicode.CaseLaid
import Derived.Shelf.Strings.FuncGrows
import Derived.Test.YtgcekmmgphhofaaGreatDoorProg
namespace Go.Proofs
open Go.Shelf Tryz
set_option maxRecDepth 9999
def Tryz.lays125_ren:Go.Shelf.Ren:=⟨fun |125=>218|128=>280|129=>250|n=>n,fun |46=>291|3=>3|51=>335|53=>156|4=>4|5=>5|9=>9|n=>n,fun |n=>n⟩
theorem Tryz.lays125:Go.Proofs.Lays.n125 Tryz.prog Tryz.lays125_ren:=⟨by kernel_rfl,func218.trans (congrArg some (by kernel_rfl)),func280.trans (congrArg some (by kernel_rfl)),func250.trans (congrArg some (by kernel_rfl)),underlying3,isAgg3,sizeOf3,zeroValue3,underlying4,isAgg4,sizeOf4,zeroValue4,underlying5,isAgg5,sizeOf5,zeroValue5,underlying9,isAgg9,sizeOf9,zeroValue9,underlying291,isAgg291,sizeOf291,zeroValue291,underlying335,isAgg335,sizeOf335,zeroValue335,underlying156,isAgg156,sizeOf156,zeroValue156⟩
theorem Tryz.bits_Len (x:Int) (w:World) (h0:0<=x) (h1:x<=18446744073709551615):
  Calls Tryz.prog 218 #[.int .u64 x] w fun e w'=>e=.returned (.int .i64 (Lib.bitLen x.toNat))/\w'=w:=Any.bits_Len Tryz.lays125 x w h0 h1
def Tryz.lays106_ren:Go.Shelf.Ren:=⟨fun |106=>117|213=>163|265=>219|n=>n,fun |9=>9|3=>3|n=>n,fun |n=>n⟩
theorem Tryz.lays106:Go.Proofs.Lays.n106 Tryz.prog Tryz.lays106_ren:=⟨by kernel_rfl,func117.trans (congrArg some (by kernel_rfl)),func163.trans (congrArg some (by kernel_rfl)),func219.trans (congrArg some (by kernel_rfl)),underlying3,isAgg3,sizeOf3,zeroValue3,underlying9,isAgg9,sizeOf9,zeroValue9⟩
open Go.RowKit in
theorem Tryz.strings_Compare (a b:ByteArray) (w:World):
  Calls Tryz.prog 117 #[.string a,.string b] w fun e w'=>e=.returned (.int .i64 (Lib.compareBytes a.data.toList b.data.toList))/\w'=w:=Any.strings_Compare Tryz.lays106 a b w
end Go.Proofs
