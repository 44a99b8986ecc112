/- The card. -/
import Derived.Test.YtjdjldbhjmgmkaaGreatDoorN27
namespace Go.Proofs.YtjdjldbhjmgmkaaGreatDoor
open Go.ChangeShapes Go.WideShapes Go.ChangeAt Go.RowKit

theorem cw6:Rows.buildMakesRow.wfByText (OpenSpec.ofChange Rows.buildMakesSpec)=true:=by kernel_rfl
theorem cm6:Tryz.pinned.checked.prog.mainIs=some ((Rows.buildMakesCard.stood.harness).1,(Rows.buildMakesCard.stood.harness).2.toList):=by kernel_rfl
theorem cg6:false=Rows.buildMakesRow.goesBy Tryz.pinned.checked.prog:=by kernel_rfl
theorem card6:Rows.BuildMakesCardSaid:=
 Claim7.holds_tied_plain_at .later [] _ _ Rows.buildMakesCard.stood.harness _ said6 (fun _ h=>by cases h) cw6 (fun _ h=>by cases h) buildMakes_row_tie rfl ⟨rfl,rfl⟩ cm6 rfl plain6 cg6
end Go.Proofs.YtjdjldbhjmgmkaaGreatDoor
