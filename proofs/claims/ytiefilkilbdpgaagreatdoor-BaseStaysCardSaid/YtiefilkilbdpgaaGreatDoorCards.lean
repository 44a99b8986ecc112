/-
  DERIVED. GIVEN WITH THE SEED: THE CARDS: each row of YtiefilkilbdpgaaGreatDoorRows.lean that lists a variable, with what it lists TIED to the program's text (the seventh form; the later family's looks); each row that meets fmt, with fmt's text TOLD by the authors' own Lean function (tested against real Go, not proved from fmt's source: count such statements apart). THE CARD IS WHAT COUNTS. Prove the row's statement (the work); the ties are given (YtiefilkilbdpgaaGreatDoorTie.lean); close each card by the builder's one call (the guide's Derived/Test/ToyasCard.lean, 'card_holds'). Laid BY PROGRAM, IN A SANDBOX (cutbox-door.mjs). By AI agents, Wed Nov 11 2026. No macro, syntax, notation, axiom, sorry.
-/
import Derived.Test.YtiefilkilbdpgaaGreatDoorRows
import GoSem.ClaimSeven
namespace Go.Proofs.YtiefilkilbdpgaaGreatDoor
namespace Rows

/-- THE TIED CARD OF 'caddislaw08.BaseStays'. -/
def baseStaysCard : Claim7 := { stood := { row := baseStaysRow, standIns := [], harness := (true, "572cd92012a211f1f7cf0f9a602b19f081013796b77920724c7074266483a9ec"), looks := false }, kinds := [], alts := [], laidByText := true, laidKinds := [.data, .data, .data, .data, .data, .pinned, .pinned], laidTests := true, laidLooks := .later }
def BaseStaysCardSaid : Prop := Claim7.holds Tryz.pinned (.plain (OpenSpec.ofChange baseStaysSpec)) baseStaysCard

/-- THE TIED CARD OF 'caddislaw08.BaseBack'. -/
def baseBackCard : Claim7 := { stood := { row := baseBackRow, standIns := [], harness := (true, "572cd92012a211f1f7cf0f9a602b19f081013796b77920724c7074266483a9ec"), looks := false }, kinds := [], alts := [], laidByText := true, laidKinds := [.data, .data, .data, .data, .data, .pinned, .pinned], laidTests := true, laidLooks := .later }
def BaseBackCardSaid : Prop := Claim7.holds Tryz.pinned (.plain (OpenSpec.ofChange baseBackSpec)) baseBackCard

/-- THE TIED CARD OF 'caddislaw08.BaseOrder'. -/
def baseOrderCard : Claim7 := { stood := { row := baseOrderRow, standIns := [], harness := (true, "572cd92012a211f1f7cf0f9a602b19f081013796b77920724c7074266483a9ec"), looks := false }, kinds := [], alts := [], laidByText := true, laidKinds := [.data, .data, .data, .data, .data, .pinned, .pinned], laidTests := true, laidLooks := .later }
def BaseOrderCardSaid : Prop := Claim7.holds Tryz.pinned (.plain (OpenSpec.ofChange baseOrderSpec)) baseOrderCard

/-- THE TIED CARD OF 'caddislaw08.BaseSelects'. -/
def baseSelectsCard : Claim7 := { stood := { row := baseSelectsRow, standIns := [], harness := (true, "572cd92012a211f1f7cf0f9a602b19f081013796b77920724c7074266483a9ec"), looks := false }, kinds := [], alts := [], laidByText := true, laidKinds := [.data, .data, .data, .data, .data, .pinned, .pinned], laidTests := true, laidLooks := .later }
def BaseSelectsCardSaid : Prop := Claim7.holds Tryz.pinned (.plain (OpenSpec.ofChange baseSelectsSpec)) baseSelectsCard

/-- THE TIED CARD OF 'caddislaw08.BaseDrops'. -/
def baseDropsCard : Claim7 := { stood := { row := baseDropsRow, standIns := [], harness := (true, "572cd92012a211f1f7cf0f9a602b19f081013796b77920724c7074266483a9ec"), looks := false }, kinds := [], alts := [], laidByText := true, laidKinds := [.data, .data, .data, .data, .data, .pinned, .pinned], laidTests := true, laidLooks := .later }
def BaseDropsCardSaid : Prop := Claim7.holds Tryz.pinned (.plain (OpenSpec.ofChange baseDropsSpec)) baseDropsCard

/-- THE TIED CARD OF 'caddislaw08.BaseSets'. -/
def baseSetsCard : Claim7 := { stood := { row := baseSetsRow, standIns := [], harness := (true, "572cd92012a211f1f7cf0f9a602b19f081013796b77920724c7074266483a9ec"), looks := false }, kinds := [], alts := [], laidByText := true, laidKinds := [.data, .data, .data, .data, .data, .pinned, .pinned], laidTests := true, laidLooks := .later }
def BaseSetsCardSaid : Prop := Claim7.holds Tryz.pinned (.plain (OpenSpec.ofChange baseSetsSpec)) baseSetsCard

/-- THE SECOND FORM's CARD OF 'caddislaw08.BaseStays'. -/
def baseStaysUptoCard : Claim7 := { stood := { row := baseStaysUptoRow, standIns := [], harness := (true, "572cd92012a211f1f7cf0f9a602b19f081013796b77920724c7074266483a9ec"), looks := false }, kinds := [], alts := [], laidByText := true, laidKinds := [.data, .data, .data, .data, .data, .pinned, .pinned], laidTests := true, laidLooks := .later }
def BaseStaysUptoCardSaid : Prop := Claim7.holds Tryz.pinned (.plain (OpenSpec.upto baseStaysSpec)) baseStaysUptoCard

/-- THE SECOND FORM's CARD OF 'caddislaw08.BaseBack'. -/
def baseBackUptoCard : Claim7 := { stood := { row := baseBackUptoRow, standIns := [], harness := (true, "572cd92012a211f1f7cf0f9a602b19f081013796b77920724c7074266483a9ec"), looks := false }, kinds := [], alts := [], laidByText := true, laidKinds := [.data, .data, .data, .data, .data, .pinned, .pinned], laidTests := true, laidLooks := .later }
def BaseBackUptoCardSaid : Prop := Claim7.holds Tryz.pinned (.plain (OpenSpec.upto baseBackSpec)) baseBackUptoCard

/-- THE SECOND FORM's CARD OF 'caddislaw08.BaseOrder'. -/
def baseOrderUptoCard : Claim7 := { stood := { row := baseOrderUptoRow, standIns := [], harness := (true, "572cd92012a211f1f7cf0f9a602b19f081013796b77920724c7074266483a9ec"), looks := false }, kinds := [], alts := [], laidByText := true, laidKinds := [.data, .data, .data, .data, .data, .pinned, .pinned], laidTests := true, laidLooks := .later }
def BaseOrderUptoCardSaid : Prop := Claim7.holds Tryz.pinned (.plain (OpenSpec.upto baseOrderSpec)) baseOrderUptoCard

/-- THE SECOND FORM's CARD OF 'caddislaw08.BaseSelects'. -/
def baseSelectsUptoCard : Claim7 := { stood := { row := baseSelectsUptoRow, standIns := [], harness := (true, "572cd92012a211f1f7cf0f9a602b19f081013796b77920724c7074266483a9ec"), looks := false }, kinds := [], alts := [], laidByText := true, laidKinds := [.data, .data, .data, .data, .data, .pinned, .pinned], laidTests := true, laidLooks := .later }
def BaseSelectsUptoCardSaid : Prop := Claim7.holds Tryz.pinned (.plain (OpenSpec.upto baseSelectsSpec)) baseSelectsUptoCard

/-- THE SECOND FORM's CARD OF 'caddislaw08.BaseDrops'. -/
def baseDropsUptoCard : Claim7 := { stood := { row := baseDropsUptoRow, standIns := [], harness := (true, "572cd92012a211f1f7cf0f9a602b19f081013796b77920724c7074266483a9ec"), looks := false }, kinds := [], alts := [], laidByText := true, laidKinds := [.data, .data, .data, .data, .data, .pinned, .pinned], laidTests := true, laidLooks := .later }
def BaseDropsUptoCardSaid : Prop := Claim7.holds Tryz.pinned (.plain (OpenSpec.upto baseDropsSpec)) baseDropsUptoCard

/-- THE SECOND FORM's CARD OF 'caddislaw08.BaseSets'. -/
def baseSetsUptoCard : Claim7 := { stood := { row := baseSetsUptoRow, standIns := [], harness := (true, "572cd92012a211f1f7cf0f9a602b19f081013796b77920724c7074266483a9ec"), looks := false }, kinds := [], alts := [], laidByText := true, laidKinds := [.data, .data, .data, .data, .data, .pinned, .pinned], laidTests := true, laidLooks := .later }
def BaseSetsUptoCardSaid : Prop := Claim7.holds Tryz.pinned (.plain (OpenSpec.upto baseSetsSpec)) baseSetsUptoCard
end Rows
end Go.Proofs.YtiefilkilbdpgaaGreatDoor
