/- The card. -/
import Derived.Test.YtjfdpfapcmcncaaGreatDoorH26
namespace Go.Proofs.YtjfdpfapcmcncaaGreatDoor
open Go.ChangeShapes Go.WideShapes Go.ChangeAt Go.RowKit

theorem card3:Rows.CoverHoldsCardSaid:=
 Claim7.holds_tied_plain_at .later [] _ _ _ _ said3 (fun _ h=>by cases h) (by kernel_rfl) (fun _ h=>by cases h) coverHolds_row_tie rfl ⟨rfl,rfl⟩ (by kernel_rfl) rfl plain3 (by kernel_rfl)
end Go.Proofs.YtjfdpfapcmcncaaGreatDoor
