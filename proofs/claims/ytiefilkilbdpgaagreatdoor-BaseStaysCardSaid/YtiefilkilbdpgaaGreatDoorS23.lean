/- BaseStays: it answers true at whatever arguments, and leaves them as they were. Conditions: none but those of the given statement. -/
import Derived.Test.YtiefilkilbdpgaaGreatDoorS22
namespace Go.Proofs.YtiefilkilbdpgaaGreatDoor

theorem baseStays_holds:Rows.BaseStaysCardSaid:=card3

end Go.Proofs.YtiefilkilbdpgaaGreatDoor
