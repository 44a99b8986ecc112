/- CoverHolds: it answers true at whatever arguments, and leaves them as they were. Conditions: none but those of the given statement. -/
import Derived.Test.YtjfdpfapcmcncaaGreatDoorH27
namespace Go.Proofs.YtjfdpfapcmcncaaGreatDoor

theorem coverHolds_holds:Rows.CoverHoldsCardSaid:=card3

end Go.Proofs.YtjfdpfapcmcncaaGreatDoor
