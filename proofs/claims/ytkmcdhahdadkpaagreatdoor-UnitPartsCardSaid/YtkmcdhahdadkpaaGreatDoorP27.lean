/- The card. -/
import Derived.Test.YtkmcdhahdadkpaaGreatDoorP26
namespace Go.Proofs.YtkmcdhahdadkpaaGreatDoor
open Go.ChangeShapes Go.WideShapes Go.ChangeAt Go.RowKit

theorem card4:Rows.UnitPartsCardSaid:=
 Claim7.holds_tied_plain_at .later [] _ _ _ _ said4 (fun _ h=>by cases h) (by kernel_rfl) (fun _ h=>by cases h) unitParts_row_tie rfl ⟨rfl,rfl⟩ (by kernel_rfl) rfl plain4 (by kernel_rfl)
end Go.Proofs.YtkmcdhahdadkpaaGreatDoor
