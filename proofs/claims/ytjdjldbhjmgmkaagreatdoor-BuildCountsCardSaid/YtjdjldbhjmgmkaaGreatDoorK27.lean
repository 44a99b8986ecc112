/- The card. -/
import Derived.Test.YtjdjldbhjmgmkaaGreatDoorK26
namespace Go.Proofs.YtjdjldbhjmgmkaaGreatDoor
open Go.ChangeShapes Go.WideShapes Go.ChangeAt Go.RowKit

theorem cw5:Rows.buildCountsRow.wfByText (OpenSpec.ofChange Rows.buildCountsSpec)=true:=by kernel_rfl
theorem cm5:Tryz.pinned.checked.prog.mainIs=some ((Rows.buildCountsCard.stood.harness).1,(Rows.buildCountsCard.stood.harness).2.toList):=by kernel_rfl
theorem cg5:false=Rows.buildCountsRow.goesBy Tryz.pinned.checked.prog:=by kernel_rfl
theorem card5:Rows.BuildCountsCardSaid:=
 Claim7.holds_tied_plain_at .later [] _ _ Rows.buildCountsCard.stood.harness _ said5 (fun _ h=>by cases h) cw5 (fun _ h=>by cases h) buildCounts_row_tie rfl ⟨rfl,rfl⟩ cm5 rfl plain5 cg5
end Go.Proofs.YtjdjldbhjmgmkaaGreatDoor
