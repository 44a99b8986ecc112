/- What the law's row says of the program. -/
import Derived.Test.YthpdpmhdaadgcaaGreatDoorG18
namespace Go.Proofs.YthpdpmhdaadgcaaGreatDoor
open Go.ChangeShapes Go.WideShapes Go.ChangeAt Go.RowKit

theorem fa6 : (Rows.planColumnsRow.inPlace == Tryz.pinned.checked.prog.inPlace 6) = true := by kernel_rfl
theorem fb6 : (Rows.planColumnsRow.unfollowed == Tryz.pinned.checked.prog.unfollowed 6) = true := by kernel_rfl
theorem fc6 : (Rows.planColumnsRow.recurses == Tryz.pinned.checked.prog.recurses 6) = true := by kernel_rfl
theorem fd6 : (Rows.planColumnsRow.named == Tryz.pinned.checked.prog.varsNamed 6) = true := by kernel_rfl
theorem facts6 : joinedFacts Tryz.pinned.checked.prog 6 Tryz.f6 (OpenSpec.ofChange Rows.planColumnsSpec).bare Rows.planColumnsRow = true := by
 unfold joinedFacts
 rw [fa6, fb6, fc6, fd6]
 kernel_rfl
end Go.Proofs.YthpdpmhdaadgcaaGreatDoor
