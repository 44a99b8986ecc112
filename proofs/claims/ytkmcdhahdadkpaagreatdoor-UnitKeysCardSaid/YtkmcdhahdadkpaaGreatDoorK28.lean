/- UnitKeys: it answers true at whatever arguments, and leaves them as they were. Conditions: none but those of the given statement. -/
import Derived.Test.YtkmcdhahdadkpaaGreatDoorK27
namespace Go.Proofs.YtkmcdhahdadkpaaGreatDoor

theorem unitKeys_holds:Rows.UnitKeysCardSaid:=card6

end Go.Proofs.YtkmcdhahdadkpaaGreatDoor
