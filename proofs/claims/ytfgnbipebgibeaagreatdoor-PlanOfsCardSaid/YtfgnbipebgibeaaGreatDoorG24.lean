/- PlanOfs: it answers true at whatever arguments, and leaves them as they were. Conditions: none but those of the given statement. -/
import Derived.Test.YtfgnbipebgibeaaGreatDoorG20
import Derived.Test.YtfgnbipebgibeaaGreatDoorG23
namespace Go.Proofs.YtfgnbipebgibeaaGreatDoor

theorem planOfs_holds:Rows.PlanOfsCardSaid:=card5 Cad.zaE

end Go.Proofs.YtfgnbipebgibeaaGreatDoor
