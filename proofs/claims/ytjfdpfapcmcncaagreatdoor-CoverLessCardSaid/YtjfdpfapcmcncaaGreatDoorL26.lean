/- CoverLess: it answers true at whatever arguments, and leaves them as they were. Conditions: none but those of the given statement. -/
import Derived.Test.YtjfdpfapcmcncaaGreatDoorL25
namespace Go.Proofs.YtjfdpfapcmcncaaGreatDoor

theorem coverLess_holds:Rows.CoverLessCardSaid:=card4

end Go.Proofs.YtjfdpfapcmcncaaGreatDoor
