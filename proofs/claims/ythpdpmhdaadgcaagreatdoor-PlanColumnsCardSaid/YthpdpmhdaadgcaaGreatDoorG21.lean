/- PlanColumns: it answers true at whatever arguments, and leaves them as they were. Conditions: none but those of the given statement. -/
import Derived.Test.YthpdpmhdaadgcaaGreatDoorG17
import Derived.Test.YthpdpmhdaadgcaaGreatDoorG20
namespace Go.Proofs.YthpdpmhdaadgcaaGreatDoor

theorem planColumns_holds : Rows.PlanColumnsCardSaid := card6 Cad.columns_holds

end Go.Proofs.YthpdpmhdaadgcaaGreatDoor
