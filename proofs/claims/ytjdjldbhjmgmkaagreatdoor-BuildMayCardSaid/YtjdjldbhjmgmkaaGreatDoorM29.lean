/- BuildMay: it answers true at whatever arguments, and leaves them as they were. Conditions: none but those of the given statement. -/
import Derived.Test.YtjdjldbhjmgmkaaGreatDoorM28
namespace Go.Proofs.YtjdjldbhjmgmkaaGreatDoor

theorem buildMay_holds:Rows.BuildMayCardSaid:=card7

end Go.Proofs.YtjdjldbhjmgmkaaGreatDoor
