/- The card. -/
import Derived.Test.YtgcekmmgphhofaaGreatDoorR49
namespace Go.Proofs.YtgcekmmgphhofaaGreatDoor
open Go.ChangeShapes Go.WideShapes Go.ChangeAt Go.RowKit

theorem noGo:Tryz.prog.funcs.toList.any Func.goes=false:=by kernel_rfl
theorem goes_none {P:Program} (h:P.funcs.toList.any Func.goes=false) (f:FuncId):P.goes f=false:=by
 have h2:P.funcs.any Func.goes=false:=by rw [← Array.any_toList]; exact h
 unfold Program.goes
 rw [h2,Bool.and_false,Bool.or_false,List.any_eq_false]
 intro g _
 cases hx:P.funcs[g]? with
 | none=>simp
 | some fn=>
  have hm:=List.any_eq_false.1 h fn (by rw [Array.mem_toList_iff]; exact Array.mem_of_getElem? hx)
  simpa using hm
theorem cg3:false=Rows.shelfSameUptoRow.goesBy Tryz.pinned.checked.prog:=by
 show false=(Tryz.prog.goesFrom Rows.shelfSameUptoRow.func||false)
 unfold Program.goesFrom
 cases Tryz.prog.funcNamed Rows.shelfSameUptoRow.func with
 | none=>rfl
 | some f=>
  rw [Option.any_some,goes_none noGo]
  rfl
end Go.Proofs.YtgcekmmgphhofaaGreatDoor
