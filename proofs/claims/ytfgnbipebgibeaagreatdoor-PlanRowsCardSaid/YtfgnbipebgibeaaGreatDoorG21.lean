/- What the law's row says of the program. -/
import Derived.Test.YtfgnbipebgibeaaGreatDoorG20
namespace Go.Proofs.YtfgnbipebgibeaaGreatDoor
open Go.ChangeShapes Go.WideShapes Go.ChangeAt Go.RowKit

theorem fa3:(Rows.planRowsRow.inPlace==Tryz.pinned.checked.prog.inPlace 3)=true:=by kernel_rfl
theorem fb3:(Rows.planRowsRow.unfollowed==Tryz.pinned.checked.prog.unfollowed 3)=true:=by kernel_rfl
theorem fc3:(Rows.planRowsRow.recurses==Tryz.pinned.checked.prog.recurses 3)=true:=by kernel_rfl
theorem fd3:(Rows.planRowsRow.named==Tryz.pinned.checked.prog.varsNamed 3)=true:=by kernel_rfl
theorem facts3:joinedFacts Tryz.pinned.checked.prog 3 Tryz.f3 (OpenSpec.ofChange Rows.planRowsSpec).bare Rows.planRowsRow=true:=by
 unfold joinedFacts
 rw [fa3,fb3,fc3,fd3]
 kernel_rfl
end Go.Proofs.YtfgnbipebgibeaaGreatDoor
