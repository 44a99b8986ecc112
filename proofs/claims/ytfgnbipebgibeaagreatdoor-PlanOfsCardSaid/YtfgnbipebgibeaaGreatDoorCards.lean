/-
  DERIVED. GIVEN WITH THE SEED: THE CARDS: each row of YtfgnbipebgibeaaGreatDoorRows.lean that lists a variable, with what it lists TIED to the program's text (the seventh form; the later family's looks); each row that meets fmt, with fmt's text TOLD by the authors' own Lean function (tested against real Go, not proved from fmt's source: count such statements apart). THE CARD IS WHAT COUNTS. Prove the row's statement (the work); the ties are given (YtfgnbipebgibeaaGreatDoorTie.lean); close each card by the builder's one call (the guide's Derived/Test/ToyasCard.lean, 'card_holds'). Laid BY PROGRAM, IN A SANDBOX (cutbox-door.mjs). By AI agents, Wed Nov 11 2026. No macro, syntax, notation, axiom, sorry.
-/
import Derived.Test.YtfgnbipebgibeaaGreatDoorRows
import GoSem.ClaimSeven
namespace Go.Proofs.YtfgnbipebgibeaaGreatDoor
namespace Rows

/-- THE TIED CARD OF 'caddislaw10.PlanRows'. -/
def planRowsCard : Claim7 := { stood := { row := planRowsRow, standIns := [], harness := (true, "fc1622faa75abf777fc69cd93c314df0d052f597221f7ccea0add4bc7dcebca5"), looks := false }, kinds := [], alts := [], laidByText := true, laidKinds := [.data, .data, .data, .data, .data, .pinned, .pinned], laidTests := true, laidLooks := .later }
def PlanRowsCardSaid : Prop := Claim7.holds Tryz.pinned (.plain (OpenSpec.ofChange planRowsSpec)) planRowsCard

/-- THE TIED CARD OF 'caddislaw10.PlanRefuses'. -/
def planRefusesCard : Claim7 := { stood := { row := planRefusesRow, standIns := [], harness := (true, "fc1622faa75abf777fc69cd93c314df0d052f597221f7ccea0add4bc7dcebca5"), looks := false }, kinds := [], alts := [], laidByText := true, laidKinds := [.data, .data, .data, .data, .data, .pinned, .pinned], laidTests := true, laidLooks := .later }
def PlanRefusesCardSaid : Prop := Claim7.holds Tryz.pinned (.plain (OpenSpec.ofChange planRefusesSpec)) planRefusesCard

/-- THE TIED CARD OF 'caddislaw10.PlanOfs'. -/
def planOfsCard : Claim7 := { stood := { row := planOfsRow, standIns := [], harness := (true, "fc1622faa75abf777fc69cd93c314df0d052f597221f7ccea0add4bc7dcebca5"), looks := false }, kinds := [], alts := [], laidByText := true, laidKinds := [.data, .data, .data, .data, .data, .pinned, .pinned], laidTests := true, laidLooks := .later }
def PlanOfsCardSaid : Prop := Claim7.holds Tryz.pinned (.plain (OpenSpec.ofChange planOfsSpec)) planOfsCard

/-- THE TIED CARD OF 'caddislaw10.PlanColumns'. -/
def planColumnsCard : Claim7 := { stood := { row := planColumnsRow, standIns := [], harness := (true, "fc1622faa75abf777fc69cd93c314df0d052f597221f7ccea0add4bc7dcebca5"), looks := false }, kinds := [], alts := [], laidByText := true, laidKinds := [.data, .data, .data, .data, .data, .pinned, .pinned], laidTests := true, laidLooks := .later }
def PlanColumnsCardSaid : Prop := Claim7.holds Tryz.pinned (.plain (OpenSpec.ofChange planColumnsSpec)) planColumnsCard

/-- THE SECOND FORM's CARD OF 'caddislaw10.PlanRows'. -/
def planRowsUptoCard : Claim7 := { stood := { row := planRowsUptoRow, standIns := [], harness := (true, "fc1622faa75abf777fc69cd93c314df0d052f597221f7ccea0add4bc7dcebca5"), looks := false }, kinds := [], alts := [], laidByText := true, laidKinds := [.data, .data, .data, .data, .data, .pinned, .pinned], laidTests := true, laidLooks := .later }
def PlanRowsUptoCardSaid : Prop := Claim7.holds Tryz.pinned (.plain (OpenSpec.upto planRowsSpec)) planRowsUptoCard

/-- THE SECOND FORM's CARD OF 'caddislaw10.PlanRefuses'. -/
def planRefusesUptoCard : Claim7 := { stood := { row := planRefusesUptoRow, standIns := [], harness := (true, "fc1622faa75abf777fc69cd93c314df0d052f597221f7ccea0add4bc7dcebca5"), looks := false }, kinds := [], alts := [], laidByText := true, laidKinds := [.data, .data, .data, .data, .data, .pinned, .pinned], laidTests := true, laidLooks := .later }
def PlanRefusesUptoCardSaid : Prop := Claim7.holds Tryz.pinned (.plain (OpenSpec.upto planRefusesSpec)) planRefusesUptoCard

/-- THE SECOND FORM's CARD OF 'caddislaw10.PlanOfs'. -/
def planOfsUptoCard : Claim7 := { stood := { row := planOfsUptoRow, standIns := [], harness := (true, "fc1622faa75abf777fc69cd93c314df0d052f597221f7ccea0add4bc7dcebca5"), looks := false }, kinds := [], alts := [], laidByText := true, laidKinds := [.data, .data, .data, .data, .data, .pinned, .pinned], laidTests := true, laidLooks := .later }
def PlanOfsUptoCardSaid : Prop := Claim7.holds Tryz.pinned (.plain (OpenSpec.upto planOfsSpec)) planOfsUptoCard

/-- THE SECOND FORM's CARD OF 'caddislaw10.PlanColumns'. -/
def planColumnsUptoCard : Claim7 := { stood := { row := planColumnsUptoRow, standIns := [], harness := (true, "fc1622faa75abf777fc69cd93c314df0d052f597221f7ccea0add4bc7dcebca5"), looks := false }, kinds := [], alts := [], laidByText := true, laidKinds := [.data, .data, .data, .data, .data, .pinned, .pinned], laidTests := true, laidLooks := .later }
def PlanColumnsUptoCardSaid : Prop := Claim7.holds Tryz.pinned (.plain (OpenSpec.upto planColumnsSpec)) planColumnsUptoCard
end Rows
end Go.Proofs.YtfgnbipebgibeaaGreatDoor
