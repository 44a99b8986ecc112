/- The card. -/
import Derived.Test.YtkmcdhahdadkpaaGreatDoorK26
namespace Go.Proofs.YtkmcdhahdadkpaaGreatDoor
open Go.ChangeShapes Go.WideShapes Go.ChangeAt Go.RowKit

theorem card6:Rows.UnitKeysCardSaid:=
 Claim7.holds_tied_plain_at .later [] _ _ _ _ said6 (fun _ h=>by cases h) (by kernel_rfl) (fun _ h=>by cases h) unitKeys_row_tie rfl ⟨rfl,rfl⟩ (by kernel_rfl) rfl plain6 (by kernel_rfl)
end Go.Proofs.YtkmcdhahdadkpaaGreatDoor
