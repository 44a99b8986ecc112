/- What the law's row says of the program. -/
import Derived.Test.YtfgnbipebgibeaaGreatDoorG18
namespace Go.Proofs.YtfgnbipebgibeaaGreatDoor
open Go.ChangeShapes Go.WideShapes Go.ChangeAt Go.RowKit

theorem fa4 : (Rows.planRefusesRow.inPlace == Tryz.pinned.checked.prog.inPlace 4) = true := by kernel_rfl
theorem fb4 : (Rows.planRefusesRow.unfollowed == Tryz.pinned.checked.prog.unfollowed 4) = true := by kernel_rfl
theorem fc4 : (Rows.planRefusesRow.recurses == Tryz.pinned.checked.prog.recurses 4) = true := by kernel_rfl
theorem fd4 : (Rows.planRefusesRow.named == Tryz.pinned.checked.prog.varsNamed 4) = true := by kernel_rfl
theorem facts4 : joinedFacts Tryz.pinned.checked.prog 4 Tryz.f4 (OpenSpec.ofChange Rows.planRefusesSpec).bare Rows.planRefusesRow = true := by
  unfold joinedFacts
  rw [fa4, fb4, fc4, fd4]
  kernel_rfl
end Go.Proofs.YtfgnbipebgibeaaGreatDoor
