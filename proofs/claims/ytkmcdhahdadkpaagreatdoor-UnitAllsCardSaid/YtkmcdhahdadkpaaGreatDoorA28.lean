/- UnitAlls: it answers true at whatever arguments, and leaves them as they were. Conditions: none but those of the given statement. -/
import Derived.Test.YtkmcdhahdadkpaaGreatDoorA27
namespace Go.Proofs.YtkmcdhahdadkpaaGreatDoor

theorem unitAlls_holds:Rows.UnitAllsCardSaid:=card5

end Go.Proofs.YtkmcdhahdadkpaaGreatDoor
