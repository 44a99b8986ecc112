/- PlanColumns: it answers true at whatever arguments, and leaves them as they were. Conditions: none but those of the given statement. -/
import Derived.Test.YtfgnbipebgibeaaGreatDoorG17
import Derived.Test.YtfgnbipebgibeaaGreatDoorG20
namespace Go.Proofs.YtfgnbipebgibeaaGreatDoor

theorem planColumns_holds : Rows.PlanColumnsCardSaid := card6 Cad.columns_holds

end Go.Proofs.YtfgnbipebgibeaaGreatDoor
