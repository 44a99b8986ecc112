/- The library's contracts at this program (written by the kit's own tool). -/
import Derived.Shelf.Strings.OnBuilder
import Derived.Shelf.Small.Strs
import Derived.Shelf.Small.Wraps
import Derived.Shelf.Strings.BuilderRune
import Derived.Shelf.Strconv.Itoa4
import Derived.Shelf.Strings.Shaped
import Derived.Shelf.Strings.SplitShaped
import Derived.Shelf.Unicode.CaseLaid
import Derived.Shelf.Strings.FuncGrows
import Derived.Ground.SlgnProg
import Derived.Test.YtjdjldbhjmgmkaaGreatDoorProg
namespace Go.Proofs
open Go.Shelf Tryz
set_option maxRecDepth 9999
def Tryz.lays125_ren:Go.Shelf.Ren:=⟨fun |125=>152|128=>219|129=>220|n=>n,fun |46=>219|3=>3|51=>56|53=>268|4=>4|5=>5|9=>9|n=>n,fun |n=>n⟩
theorem Tryz.lays125:Go.Proofs.Lays.n125 Tryz.prog Tryz.lays125_ren:=⟨by kernel_rfl,func152.trans (congrArg some (by kernel_rfl)),func219.trans (congrArg some (by kernel_rfl)),func220.trans (congrArg some (by kernel_rfl)),underlying3,isAgg3,sizeOf3,zeroValue3,underlying4,isAgg4,sizeOf4,zeroValue4,underlying5,isAgg5,sizeOf5,zeroValue5,underlying9,isAgg9,sizeOf9,zeroValue9,underlying219,isAgg219,sizeOf219,zeroValue219,underlying56,isAgg56,sizeOf56,zeroValue56,underlying268,isAgg268,sizeOf268,zeroValue268⟩
theorem Tryz.bits_Len (x:Int) (w:World) (h0:0<=x) (h1:x<=18446744073709551615):
  Calls Tryz.prog 152 #[.int .u64 x] w fun e w'=>e=.returned (.int .i64 (Lib.bitLen x.toNat))/\w'=w:=Any.bits_Len Tryz.lays125 x w h0 h1
def Tryz.lays106_ren:Go.Shelf.Ren:=⟨fun |106=>83|213=>140|265=>198|n=>n,fun |9=>9|3=>3|n=>n,fun |n=>n⟩
theorem Tryz.lays106:Go.Proofs.Lays.n106 Tryz.prog Tryz.lays106_ren:=⟨by kernel_rfl,func83.trans (congrArg some (by kernel_rfl)),func140.trans (congrArg some (by kernel_rfl)),func198.trans (congrArg some (by kernel_rfl)),underlying3,isAgg3,sizeOf3,zeroValue3,underlying9,isAgg9,sizeOf9,zeroValue9⟩
open Go.RowKit in
theorem Tryz.strings_Compare (a b:ByteArray) (w:World):
  Calls Tryz.prog 83 #[.string a,.string b] w fun e w'=>e=.returned (.int .i64 (Lib.compareBytes a.data.toList b.data.toList))/\w'=w:=Any.strings_Compare Tryz.lays106 a b w
end Go.Proofs
