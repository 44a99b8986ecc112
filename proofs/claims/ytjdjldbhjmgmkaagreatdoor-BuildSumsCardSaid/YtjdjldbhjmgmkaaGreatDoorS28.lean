/- BuildSums: it answers true at whatever arguments, and leaves them as they were. Conditions: none but those of the given statement. -/
import Derived.Test.YtjdjldbhjmgmkaaGreatDoorS27
namespace Go.Proofs.YtjdjldbhjmgmkaaGreatDoor

theorem buildSums_holds:Rows.BuildSumsCardSaid:=card3

end Go.Proofs.YtjdjldbhjmgmkaaGreatDoor
