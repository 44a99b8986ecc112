/-
  DERIVED. GIVEN WITH THE SEED: THE CARDS: each row of YtkmcdhahdadkpaaGreatDoorRows.lean that lists a variable, with what it lists TIED to the program's text (the seventh form; the later family's looks); each row that meets fmt, with fmt's text TOLD by the authors' own Lean function (tested against real Go, not proved from fmt's source: count such statements apart). THE CARD IS WHAT COUNTS. Prove the row's statement (the work); the ties are given (YtkmcdhahdadkpaaGreatDoorTie.lean); close each card by the builder's one call (the guide's Derived/Test/ToyasCard.lean, 'card_holds'). Laid BY PROGRAM, IN A SANDBOX (cutbox-door.mjs). By AI agents, Wed Nov 11 2026. No macro, syntax, notation, axiom, sorry.
-/
import Derived.Test.YtkmcdhahdadkpaaGreatDoorRows
import GoSem.ClaimSeven
namespace Go.Proofs.YtkmcdhahdadkpaaGreatDoor
namespace Rows

/-- THE TIED CARD OF 'caddislaw11.UnitFew'. -/
def unitFewCard : Claim7 := { stood := { row := unitFewRow, standIns := [], harness := (true, "a23f337c1b11bf9388c9d042b5cf65061839e653ef3d1df3969794fae938c0ef"), looks := false }, kinds := [], alts := [], laidByText := true, laidKinds := [.data, .data, .data, .data, .data, .pinned, .pinned], laidTests := true, laidLooks := .later }
def UnitFewCardSaid : Prop := Claim7.holds Tryz.pinned (.plain (OpenSpec.ofChange unitFewSpec)) unitFewCard

/-- THE TIED CARD OF 'caddislaw11.UnitParts'. -/
def unitPartsCard : Claim7 := { stood := { row := unitPartsRow, standIns := [], harness := (true, "a23f337c1b11bf9388c9d042b5cf65061839e653ef3d1df3969794fae938c0ef"), looks := false }, kinds := [], alts := [], laidByText := true, laidKinds := [.data, .data, .data, .data, .data, .pinned, .pinned], laidTests := true, laidLooks := .later }
def UnitPartsCardSaid : Prop := Claim7.holds Tryz.pinned (.plain (OpenSpec.ofChange unitPartsSpec)) unitPartsCard

/-- THE TIED CARD OF 'caddislaw11.UnitAlls'. -/
def unitAllsCard : Claim7 := { stood := { row := unitAllsRow, standIns := [], harness := (true, "a23f337c1b11bf9388c9d042b5cf65061839e653ef3d1df3969794fae938c0ef"), looks := false }, kinds := [], alts := [], laidByText := true, laidKinds := [.data, .data, .data, .data, .data, .pinned, .pinned], laidTests := true, laidLooks := .later }
def UnitAllsCardSaid : Prop := Claim7.holds Tryz.pinned (.plain (OpenSpec.ofChange unitAllsSpec)) unitAllsCard

/-- THE TIED CARD OF 'caddislaw11.UnitKeys'. -/
def unitKeysCard : Claim7 := { stood := { row := unitKeysRow, standIns := [], harness := (true, "a23f337c1b11bf9388c9d042b5cf65061839e653ef3d1df3969794fae938c0ef"), looks := false }, kinds := [], alts := [], laidByText := true, laidKinds := [.data, .data, .data, .data, .data, .pinned, .pinned], laidTests := true, laidLooks := .later }
def UnitKeysCardSaid : Prop := Claim7.holds Tryz.pinned (.plain (OpenSpec.ofChange unitKeysSpec)) unitKeysCard

/-- THE SECOND FORM's CARD OF 'caddislaw11.UnitFew'. -/
def unitFewUptoCard : Claim7 := { stood := { row := unitFewUptoRow, standIns := [], harness := (true, "a23f337c1b11bf9388c9d042b5cf65061839e653ef3d1df3969794fae938c0ef"), looks := false }, kinds := [], alts := [], laidByText := true, laidKinds := [.data, .data, .data, .data, .data, .pinned, .pinned], laidTests := true, laidLooks := .later }
def UnitFewUptoCardSaid : Prop := Claim7.holds Tryz.pinned (.plain (OpenSpec.upto unitFewSpec)) unitFewUptoCard

/-- THE SECOND FORM's CARD OF 'caddislaw11.UnitParts'. -/
def unitPartsUptoCard : Claim7 := { stood := { row := unitPartsUptoRow, standIns := [], harness := (true, "a23f337c1b11bf9388c9d042b5cf65061839e653ef3d1df3969794fae938c0ef"), looks := false }, kinds := [], alts := [], laidByText := true, laidKinds := [.data, .data, .data, .data, .data, .pinned, .pinned], laidTests := true, laidLooks := .later }
def UnitPartsUptoCardSaid : Prop := Claim7.holds Tryz.pinned (.plain (OpenSpec.upto unitPartsSpec)) unitPartsUptoCard

/-- THE SECOND FORM's CARD OF 'caddislaw11.UnitAlls'. -/
def unitAllsUptoCard : Claim7 := { stood := { row := unitAllsUptoRow, standIns := [], harness := (true, "a23f337c1b11bf9388c9d042b5cf65061839e653ef3d1df3969794fae938c0ef"), looks := false }, kinds := [], alts := [], laidByText := true, laidKinds := [.data, .data, .data, .data, .data, .pinned, .pinned], laidTests := true, laidLooks := .later }
def UnitAllsUptoCardSaid : Prop := Claim7.holds Tryz.pinned (.plain (OpenSpec.upto unitAllsSpec)) unitAllsUptoCard

/-- THE SECOND FORM's CARD OF 'caddislaw11.UnitKeys'. -/
def unitKeysUptoCard : Claim7 := { stood := { row := unitKeysUptoRow, standIns := [], harness := (true, "a23f337c1b11bf9388c9d042b5cf65061839e653ef3d1df3969794fae938c0ef"), looks := false }, kinds := [], alts := [], laidByText := true, laidKinds := [.data, .data, .data, .data, .data, .pinned, .pinned], laidTests := true, laidLooks := .later }
def UnitKeysUptoCardSaid : Prop := Claim7.holds Tryz.pinned (.plain (OpenSpec.upto unitKeysSpec)) unitKeysUptoCard
end Rows
end Go.Proofs.YtkmcdhahdadkpaaGreatDoor
