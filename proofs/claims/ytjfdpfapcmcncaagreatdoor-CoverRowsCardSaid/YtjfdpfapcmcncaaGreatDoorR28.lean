/- CoverRows: it answers true at whatever arguments, and leaves them as they were. Conditions: none but those of the given statement. -/
import Derived.Test.YtjfdpfapcmcncaaGreatDoorR27
namespace Go.Proofs.YtjfdpfapcmcncaaGreatDoor

theorem coverRows_holds:Rows.CoverRowsCardSaid:=card5

end Go.Proofs.YtjfdpfapcmcncaaGreatDoor
