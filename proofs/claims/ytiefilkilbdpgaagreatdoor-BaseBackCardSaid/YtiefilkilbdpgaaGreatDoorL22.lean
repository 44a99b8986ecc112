/- BaseBack: it answers true at whatever arguments, and leaves them as they were. Conditions: none but those of the given statement. -/
import Derived.Test.YtiefilkilbdpgaaGreatDoorL21
namespace Go.Proofs.YtiefilkilbdpgaaGreatDoor

theorem baseBack_holds:Rows.BaseBackCardSaid:=card4

end Go.Proofs.YtiefilkilbdpgaaGreatDoor
