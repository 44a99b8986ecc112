/- BuildMakes: it answers true at whatever arguments, and leaves them as they were. Conditions: none but those of the given statement. -/
import Derived.Test.YtjdjldbhjmgmkaaGreatDoorN28
namespace Go.Proofs.YtjdjldbhjmgmkaaGreatDoor

theorem buildMakes_holds:Rows.BuildMakesCardSaid:=card6

end Go.Proofs.YtjdjldbhjmgmkaaGreatDoor
