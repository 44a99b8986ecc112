/- BaseOrder: it answers true at whatever arguments, and leaves them as they were. Conditions: none but those of the given statement. -/
import Derived.Test.YtiefilkilbdpgaaGreatDoorK20
namespace Go.Proofs.YtiefilkilbdpgaaGreatDoor

theorem baseOrder_holds:Rows.BaseOrderCardSaid:=card5

end Go.Proofs.YtiefilkilbdpgaaGreatDoor
