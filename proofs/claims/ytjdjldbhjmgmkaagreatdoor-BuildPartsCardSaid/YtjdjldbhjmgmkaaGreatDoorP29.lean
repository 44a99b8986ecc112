/- BuildParts: it answers true at whatever arguments, and leaves them as they were. Conditions: none but those of the given statement. -/
import Derived.Test.YtjdjldbhjmgmkaaGreatDoorP28
namespace Go.Proofs.YtjdjldbhjmgmkaaGreatDoor

theorem buildParts_holds:Rows.BuildPartsCardSaid:=card4

end Go.Proofs.YtjdjldbhjmgmkaaGreatDoor
