/- BuildCounts: it answers true at whatever arguments, and leaves them as they were. Conditions: none but those of the given statement. -/
import Derived.Test.YtjdjldbhjmgmkaaGreatDoorK27
namespace Go.Proofs.YtjdjldbhjmgmkaaGreatDoor

theorem buildCounts_holds:Rows.BuildCountsCardSaid:=card5

end Go.Proofs.YtjdjldbhjmgmkaaGreatDoor
