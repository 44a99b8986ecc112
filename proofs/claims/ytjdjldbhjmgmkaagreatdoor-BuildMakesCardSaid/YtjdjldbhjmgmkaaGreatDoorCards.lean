/-
  DERIVED. GIVEN WITH THE SEED: THE CARDS: each row of YtjdjldbhjmgmkaaGreatDoorRows.lean that lists a variable, with what it lists TIED to the program's text (the seventh form; the later family's looks); each row that meets fmt, with fmt's text TOLD by the authors' own Lean function (tested against real Go, not proved from fmt's source: count such statements apart). THE CARD IS WHAT COUNTS. Prove the row's statement (the work); the ties are given (YtjdjldbhjmgmkaaGreatDoorTie.lean); close each card by the builder's one call (the guide's Derived/Test/ToyasCard.lean, 'card_holds'). Laid BY PROGRAM, IN A SANDBOX (cutbox-door.mjs). By AI agents, Wed Nov 11 2026. No macro, syntax, notation, axiom, sorry.
-/
import Derived.Test.YtjdjldbhjmgmkaaGreatDoorRows
import GoSem.ClaimSeven
namespace Go.Proofs.YtjdjldbhjmgmkaaGreatDoor
namespace Rows

/-- THE TIED CARD OF 'caddislaw12.BuildSums'. -/
def buildSumsCard : Claim7 := { stood := { row := buildSumsRow, standIns := [], harness := (true, "e7d60cee9fb802bd3ef5cfa4b06d0c5f9a1360a9720fc41ee505d86e5266ec8c"), looks := false }, kinds := [], alts := [], laidByText := true, laidKinds := [.data, .data, .data, .data, .data, .pinned, .pinned], laidTests := true, laidLooks := .later }
def BuildSumsCardSaid : Prop := Claim7.holds Tryz.pinned (.plain (OpenSpec.ofChange buildSumsSpec)) buildSumsCard

/-- THE TIED CARD OF 'caddislaw12.BuildParts'. -/
def buildPartsCard : Claim7 := { stood := { row := buildPartsRow, standIns := [], harness := (true, "e7d60cee9fb802bd3ef5cfa4b06d0c5f9a1360a9720fc41ee505d86e5266ec8c"), looks := false }, kinds := [], alts := [], laidByText := true, laidKinds := [.data, .data, .data, .data, .data, .pinned, .pinned], laidTests := true, laidLooks := .later }
def BuildPartsCardSaid : Prop := Claim7.holds Tryz.pinned (.plain (OpenSpec.ofChange buildPartsSpec)) buildPartsCard

/-- THE TIED CARD OF 'caddislaw12.BuildCounts'. -/
def buildCountsCard : Claim7 := { stood := { row := buildCountsRow, standIns := [], harness := (true, "e7d60cee9fb802bd3ef5cfa4b06d0c5f9a1360a9720fc41ee505d86e5266ec8c"), looks := false }, kinds := [], alts := [], laidByText := true, laidKinds := [.data, .data, .data, .data, .data, .pinned, .pinned], laidTests := true, laidLooks := .later }
def BuildCountsCardSaid : Prop := Claim7.holds Tryz.pinned (.plain (OpenSpec.ofChange buildCountsSpec)) buildCountsCard

/-- THE TIED CARD OF 'caddislaw12.BuildMakes'. -/
def buildMakesCard : Claim7 := { stood := { row := buildMakesRow, standIns := [], harness := (true, "e7d60cee9fb802bd3ef5cfa4b06d0c5f9a1360a9720fc41ee505d86e5266ec8c"), looks := false }, kinds := [], alts := [], laidByText := true, laidKinds := [.data, .data, .data, .data, .data, .pinned, .pinned], laidTests := true, laidLooks := .later }
def BuildMakesCardSaid : Prop := Claim7.holds Tryz.pinned (.plain (OpenSpec.ofChange buildMakesSpec)) buildMakesCard

/-- THE TIED CARD OF 'caddislaw12.BuildMay'. -/
def buildMayCard : Claim7 := { stood := { row := buildMayRow, standIns := [], harness := (true, "e7d60cee9fb802bd3ef5cfa4b06d0c5f9a1360a9720fc41ee505d86e5266ec8c"), looks := false }, kinds := [], alts := [], laidByText := true, laidKinds := [.data, .data, .data, .data, .data, .pinned, .pinned], laidTests := true, laidLooks := .later }
def BuildMayCardSaid : Prop := Claim7.holds Tryz.pinned (.plain (OpenSpec.ofChange buildMaySpec)) buildMayCard

/-- THE SECOND FORM's CARD OF 'caddislaw12.BuildSums'. -/
def buildSumsUptoCard : Claim7 := { stood := { row := buildSumsUptoRow, standIns := [], harness := (true, "e7d60cee9fb802bd3ef5cfa4b06d0c5f9a1360a9720fc41ee505d86e5266ec8c"), looks := false }, kinds := [], alts := [], laidByText := true, laidKinds := [.data, .data, .data, .data, .data, .pinned, .pinned], laidTests := true, laidLooks := .later }
def BuildSumsUptoCardSaid : Prop := Claim7.holds Tryz.pinned (.plain (OpenSpec.upto buildSumsSpec)) buildSumsUptoCard

/-- THE SECOND FORM's CARD OF 'caddislaw12.BuildParts'. -/
def buildPartsUptoCard : Claim7 := { stood := { row := buildPartsUptoRow, standIns := [], harness := (true, "e7d60cee9fb802bd3ef5cfa4b06d0c5f9a1360a9720fc41ee505d86e5266ec8c"), looks := false }, kinds := [], alts := [], laidByText := true, laidKinds := [.data, .data, .data, .data, .data, .pinned, .pinned], laidTests := true, laidLooks := .later }
def BuildPartsUptoCardSaid : Prop := Claim7.holds Tryz.pinned (.plain (OpenSpec.upto buildPartsSpec)) buildPartsUptoCard

/-- THE SECOND FORM's CARD OF 'caddislaw12.BuildCounts'. -/
def buildCountsUptoCard : Claim7 := { stood := { row := buildCountsUptoRow, standIns := [], harness := (true, "e7d60cee9fb802bd3ef5cfa4b06d0c5f9a1360a9720fc41ee505d86e5266ec8c"), looks := false }, kinds := [], alts := [], laidByText := true, laidKinds := [.data, .data, .data, .data, .data, .pinned, .pinned], laidTests := true, laidLooks := .later }
def BuildCountsUptoCardSaid : Prop := Claim7.holds Tryz.pinned (.plain (OpenSpec.upto buildCountsSpec)) buildCountsUptoCard

/-- THE SECOND FORM's CARD OF 'caddislaw12.BuildMakes'. -/
def buildMakesUptoCard : Claim7 := { stood := { row := buildMakesUptoRow, standIns := [], harness := (true, "e7d60cee9fb802bd3ef5cfa4b06d0c5f9a1360a9720fc41ee505d86e5266ec8c"), looks := false }, kinds := [], alts := [], laidByText := true, laidKinds := [.data, .data, .data, .data, .data, .pinned, .pinned], laidTests := true, laidLooks := .later }
def BuildMakesUptoCardSaid : Prop := Claim7.holds Tryz.pinned (.plain (OpenSpec.upto buildMakesSpec)) buildMakesUptoCard

/-- THE SECOND FORM's CARD OF 'caddislaw12.BuildMay'. -/
def buildMayUptoCard : Claim7 := { stood := { row := buildMayUptoRow, standIns := [], harness := (true, "e7d60cee9fb802bd3ef5cfa4b06d0c5f9a1360a9720fc41ee505d86e5266ec8c"), looks := false }, kinds := [], alts := [], laidByText := true, laidKinds := [.data, .data, .data, .data, .data, .pinned, .pinned], laidTests := true, laidLooks := .later }
def BuildMayUptoCardSaid : Prop := Claim7.holds Tryz.pinned (.plain (OpenSpec.upto buildMaySpec)) buildMayUptoCard
end Rows
end Go.Proofs.YtjdjldbhjmgmkaaGreatDoor
