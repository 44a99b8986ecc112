/- The card. -/
import Derived.Test.YtjfdpfapcmcncaaGreatDoorR26
namespace Go.Proofs.YtjfdpfapcmcncaaGreatDoor
open Go.ChangeShapes Go.WideShapes Go.ChangeAt Go.RowKit

theorem card5:Rows.CoverRowsCardSaid:=
 Claim7.holds_tied_plain_at .later [] _ _ _ _ said5 (fun _ h=>by cases h) (by kernel_rfl) (fun _ h=>by cases h) coverRows_row_tie rfl ⟨rfl,rfl⟩ (by kernel_rfl) rfl plain5 (by kernel_rfl)
end Go.Proofs.YtjfdpfapcmcncaaGreatDoor
