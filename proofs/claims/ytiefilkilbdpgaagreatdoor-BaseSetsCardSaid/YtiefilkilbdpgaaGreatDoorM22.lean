/- BaseSets: it answers true at whatever arguments, and leaves them as they were. Conditions: none but those of the given statement. -/
import Derived.Test.YtiefilkilbdpgaaGreatDoorM21
namespace Go.Proofs.YtiefilkilbdpgaaGreatDoor

theorem baseSets_holds:Rows.BaseSetsCardSaid:=card8

end Go.Proofs.YtiefilkilbdpgaaGreatDoor
