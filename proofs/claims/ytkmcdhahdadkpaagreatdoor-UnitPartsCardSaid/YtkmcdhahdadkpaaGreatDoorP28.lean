/- UnitParts: it answers true at whatever arguments, and leaves them as they were. Conditions: none but those of the given statement. -/
import Derived.Test.YtkmcdhahdadkpaaGreatDoorP27
namespace Go.Proofs.YtkmcdhahdadkpaaGreatDoor

theorem unitParts_holds:Rows.UnitPartsCardSaid:=card4

end Go.Proofs.YtkmcdhahdadkpaaGreatDoor
