/- ShelfSame: it answers true at whatever arguments of that bulk, and leaves them as they were. Conditions: none but those of the given statement. -/
import Derived.Test.YtgcekmmgphhofaaGreatDoorR50
namespace Go.Proofs.YtgcekmmgphhofaaGreatDoor
open Go.ChangeShapes Go.WideShapes Go.ChangeAt Go.RowKit

theorem cw3:Rows.shelfSameUptoRow.wfByText (Rows.OpenSpec.upto Rows.shelfSameSpec)=true:=by kernel_rfl
theorem cm3:Tryz.pinned.checked.prog.mainIs=some ((Rows.shelfSameUptoCard.stood.harness).1,(Rows.shelfSameUptoCard.stood.harness).2.toList):=by kernel_rfl
theorem shelfSame_holds:Rows.ShelfSameUptoCardSaid:=
 Claim7.holds_tied_plain_at .later [] _ _ Rows.shelfSameUptoCard.stood.harness _ said3 (fun _ h=>by cases h) cw3 (fun _ h=>by cases h) shelfSameUpto_row_tie rfl ⟨rfl,rfl⟩ cm3 rfl plain3 cg3
end Go.Proofs.YtgcekmmgphhofaaGreatDoor
