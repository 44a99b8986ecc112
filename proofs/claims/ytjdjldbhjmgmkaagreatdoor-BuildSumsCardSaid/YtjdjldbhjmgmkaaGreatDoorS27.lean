/- The card. -/
import Derived.Test.YtjdjldbhjmgmkaaGreatDoorS26
namespace Go.Proofs.YtjdjldbhjmgmkaaGreatDoor
open Go.ChangeShapes Go.WideShapes Go.ChangeAt Go.RowKit

theorem cw3:Rows.buildSumsRow.wfByText (OpenSpec.ofChange Rows.buildSumsSpec)=true:=by kernel_rfl
theorem cm3:Tryz.pinned.checked.prog.mainIs=some ((Rows.buildSumsCard.stood.harness).1,(Rows.buildSumsCard.stood.harness).2.toList):=by kernel_rfl
theorem cg3:false=Rows.buildSumsRow.goesBy Tryz.pinned.checked.prog:=by kernel_rfl
theorem card3:Rows.BuildSumsCardSaid:=
 Claim7.holds_tied_plain_at .later [] _ _ Rows.buildSumsCard.stood.harness _ said3 (fun _ h=>by cases h) cw3 (fun _ h=>by cases h) buildSums_row_tie rfl ⟨rfl,rfl⟩ cm3 rfl plain3 cg3
end Go.Proofs.YtjdjldbhjmgmkaaGreatDoor
