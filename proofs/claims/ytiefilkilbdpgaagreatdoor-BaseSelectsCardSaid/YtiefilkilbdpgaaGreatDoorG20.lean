/- BaseSelects: it answers true at whatever arguments, and leaves them as they were. Conditions: none but those of the given statement. -/
import Derived.Test.YtiefilkilbdpgaaGreatDoorG19
namespace Go.Proofs.YtiefilkilbdpgaaGreatDoor

theorem baseSelects_holds:Rows.BaseSelectsCardSaid:=card6

end Go.Proofs.YtiefilkilbdpgaaGreatDoor
