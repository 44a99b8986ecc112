/- BaseDrops: it answers true at whatever arguments, and leaves them as they were. Conditions: none but those of the given statement. -/
import Derived.Test.YtiefilkilbdpgaaGreatDoorN22
namespace Go.Proofs.YtiefilkilbdpgaaGreatDoor

theorem baseDrops_holds:Rows.BaseDropsCardSaid:=card7

end Go.Proofs.YtiefilkilbdpgaaGreatDoor
