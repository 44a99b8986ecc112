/- UnitFew: it answers true at whatever arguments, and leaves them as they were. Conditions: none but those of the given statement. -/
import Derived.Test.YtkmcdhahdadkpaaGreatDoorF26
namespace Go.Proofs.YtkmcdhahdadkpaaGreatDoor

theorem unitFew_holds:Rows.UnitFewCardSaid:=card3

end Go.Proofs.YtkmcdhahdadkpaaGreatDoor
