/- PlanRows: it answers true at whatever arguments, and leaves them as they were. Conditions: none but those of the given statement. -/
import Derived.Test.YtfgnbipebgibeaaGreatDoorG19
import Derived.Test.YtfgnbipebgibeaaGreatDoorG22
namespace Go.Proofs.YtfgnbipebgibeaaGreatDoor

theorem rows_fok:Cad.FOk Tryz.prog Cad.zrA 3 Cad.F3p:=by
 have h:=Cad.zQd
 rw [show Cad.zgP.P=Tryz.prog from rfl,show Cad.zgP.gl=Cad.zrA from rfl] at h
 exact h
theorem planRows_holds:Rows.PlanRowsCardSaid:=card3 rows_fok

end Go.Proofs.YtfgnbipebgibeaaGreatDoor
