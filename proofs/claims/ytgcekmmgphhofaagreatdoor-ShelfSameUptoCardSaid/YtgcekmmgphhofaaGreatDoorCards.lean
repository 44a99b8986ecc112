/-
  DERIVED. GIVEN WITH THE SEED: THE CARDS: each row of YtgcekmmgphhofaaGreatDoorRows.lean that lists a variable, with what it lists TIED to the program's text (the seventh form; the later family's looks); each row that meets fmt, with fmt's text TOLD by the authors' own Lean function (tested against real Go, not proved from fmt's source: count such statements apart). THE CARD IS WHAT COUNTS. Prove the row's statement (the work); the ties are given (YtgcekmmgphhofaaGreatDoorTie.lean); close each card by the builder's one call (the guide's Derived/Test/ToyasCard.lean, 'card_holds'). Laid BY PROGRAM, IN A SANDBOX (cutbox-door.mjs). By AI agents, Wed Nov 11 2026. No macro, syntax, notation, axiom, sorry.
-/
import Derived.Test.YtgcekmmgphhofaaGreatDoorRows
import GoSem.ClaimSeven
namespace Go.Proofs.YtgcekmmgphhofaaGreatDoor
namespace Rows

/-- THE TIED CARD OF 'caddislaw22.ShelfSame'. -/
def shelfSameCard : Claim7 := { stood := { row := shelfSameRow, standIns := [], harness := (true, "ef6a6192351a6a32b25f12356c498c3ba3ac05c43e2815001013e820fb16a544"), looks := true }, kinds := [], alts := [], laidByText := true, laidKinds := [.data, .data, .data, .data, .sentinel, .sentinel, .data, .pinned, .pinned], laidTests := true, laidLooks := .later }
def ShelfSameCardSaid : Prop := Claim7.holds Tryz.pinned (.plain (OpenSpec.ofChange shelfSameSpec)) shelfSameCard

/-- THE TIED CARD OF 'caddislaw22.ShelfShort'. -/
def shelfShortCard : Claim7 := { stood := { row := shelfShortRow, standIns := [], harness := (true, "ef6a6192351a6a32b25f12356c498c3ba3ac05c43e2815001013e820fb16a544"), looks := true }, kinds := [], alts := [], laidByText := true, laidKinds := [.data, .data, .data, .data, .sentinel, .sentinel, .data, .pinned, .pinned], laidTests := true, laidLooks := .later }
def ShelfShortCardSaid : Prop := Claim7.holds Tryz.pinned (.plain (OpenSpec.ofChange shelfShortSpec)) shelfShortCard

/-- THE SECOND FORM's CARD OF 'caddislaw22.ShelfSame'. -/
def shelfSameUptoCard : Claim7 := { stood := { row := shelfSameUptoRow, standIns := [], harness := (true, "ef6a6192351a6a32b25f12356c498c3ba3ac05c43e2815001013e820fb16a544"), looks := true }, kinds := [], alts := [], laidByText := true, laidKinds := [.data, .data, .data, .data, .sentinel, .sentinel, .data, .pinned, .pinned], laidTests := true, laidLooks := .later }
def ShelfSameUptoCardSaid : Prop := Claim7.holds Tryz.pinned (.plain (OpenSpec.upto shelfSameSpec)) shelfSameUptoCard

/-- THE SECOND FORM's CARD OF 'caddislaw22.ShelfShort'. -/
def shelfShortUptoCard : Claim7 := { stood := { row := shelfShortUptoRow, standIns := [], harness := (true, "ef6a6192351a6a32b25f12356c498c3ba3ac05c43e2815001013e820fb16a544"), looks := true }, kinds := [], alts := [], laidByText := true, laidKinds := [.data, .data, .data, .data, .sentinel, .sentinel, .data, .pinned, .pinned], laidTests := true, laidLooks := .later }
def ShelfShortUptoCardSaid : Prop := Claim7.holds Tryz.pinned (.plain (OpenSpec.upto shelfShortSpec)) shelfShortUptoCard
end Rows
end Go.Proofs.YtgcekmmgphhofaaGreatDoor
