/- The card. -/
import Derived.Test.YtjfdpfapcmcncaaGreatDoorL24
namespace Go.Proofs.YtjfdpfapcmcncaaGreatDoor
open Go.ChangeShapes Go.WideShapes Go.ChangeAt Go.RowKit

theorem card4:Rows.CoverLessCardSaid:=
 Claim7.holds_tied_plain_at .later [] _ _ _ _ said4 (fun _ h=>by cases h) (by kernel_rfl) (fun _ h=>by cases h) coverLess_row_tie rfl ⟨rfl,rfl⟩ (by kernel_rfl) rfl plain4 (by kernel_rfl)
end Go.Proofs.YtjfdpfapcmcncaaGreatDoor
