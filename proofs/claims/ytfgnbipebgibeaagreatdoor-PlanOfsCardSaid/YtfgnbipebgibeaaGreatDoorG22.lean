/- What the law's row says of the program. -/
import Derived.Test.YtfgnbipebgibeaaGreatDoorG21
namespace Go.Proofs.YtfgnbipebgibeaaGreatDoor
open Go.ChangeShapes Go.WideShapes Go.ChangeAt Go.RowKit

theorem fa5:(Rows.planOfsRow.inPlace==Tryz.pinned.checked.prog.inPlace 5)=true:=by kernel_rfl
theorem fb5:(Rows.planOfsRow.unfollowed==Tryz.pinned.checked.prog.unfollowed 5)=true:=by kernel_rfl
theorem fc5:(Rows.planOfsRow.recurses==Tryz.pinned.checked.prog.recurses 5)=true:=by kernel_rfl
theorem fd5:(Rows.planOfsRow.named==Tryz.pinned.checked.prog.varsNamed 5)=true:=by kernel_rfl
theorem facts5:joinedFacts Tryz.pinned.checked.prog 5 Tryz.f5 (OpenSpec.ofChange Rows.planOfsSpec).bare Rows.planOfsRow=true:=by
 unfold joinedFacts
 rw [fa5,fb5,fc5,fd5]
 kernel_rfl
end Go.Proofs.YtfgnbipebgibeaaGreatDoor
