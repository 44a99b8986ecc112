/- The card. -/
import Derived.Test.YtjdjldbhjmgmkaaGreatDoorM27
namespace Go.Proofs.YtjdjldbhjmgmkaaGreatDoor
open Go.ChangeShapes Go.WideShapes Go.ChangeAt Go.RowKit

theorem cw7:Rows.buildMayRow.wfByText (OpenSpec.ofChange Rows.buildMaySpec)=true:=by kernel_rfl
theorem cm7:Tryz.pinned.checked.prog.mainIs=some ((Rows.buildMayCard.stood.harness).1,(Rows.buildMayCard.stood.harness).2.toList):=by kernel_rfl
theorem cg7:false=Rows.buildMayRow.goesBy Tryz.pinned.checked.prog:=by kernel_rfl
theorem card7:Rows.BuildMayCardSaid:=
 Claim7.holds_tied_plain_at .later [] _ _ Rows.buildMayCard.stood.harness _ said7 (fun _ h=>by cases h) cw7 (fun _ h=>by cases h) buildMay_row_tie rfl ⟨rfl,rfl⟩ cm7 rfl plain7 cg7
end Go.Proofs.YtjdjldbhjmgmkaaGreatDoor
