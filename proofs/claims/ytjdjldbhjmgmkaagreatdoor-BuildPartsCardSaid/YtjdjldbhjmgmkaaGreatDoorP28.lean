/- The card. -/
import Derived.Test.YtjdjldbhjmgmkaaGreatDoorP27
namespace Go.Proofs.YtjdjldbhjmgmkaaGreatDoor
open Go.ChangeShapes Go.WideShapes Go.ChangeAt Go.RowKit

theorem cw4:Rows.buildPartsRow.wfByText (OpenSpec.ofChange Rows.buildPartsSpec)=true:=by kernel_rfl
theorem cm4:Tryz.pinned.checked.prog.mainIs=some ((Rows.buildPartsCard.stood.harness).1,(Rows.buildPartsCard.stood.harness).2.toList):=by kernel_rfl
theorem cg4:false=Rows.buildPartsRow.goesBy Tryz.pinned.checked.prog:=by kernel_rfl
theorem card4:Rows.BuildPartsCardSaid:=
 Claim7.holds_tied_plain_at .later [] _ _ Rows.buildPartsCard.stood.harness _ said4 (fun _ h=>by cases h) cw4 (fun _ h=>by cases h) buildParts_row_tie rfl ⟨rfl,rfl⟩ cm4 rfl plain4 cg4
end Go.Proofs.YtjdjldbhjmgmkaaGreatDoor
