/-
  DERIVED. GIVEN WITH THE SEED: THE CARDS: each row of YtjfdpfapcmcncaaGreatDoorRows.lean that lists a variable, with what it lists TIED to the program's text (the seventh form; the later family's looks); each row that meets fmt, with fmt's text TOLD by the authors' own Lean function (tested against real Go, not proved from fmt's source: count such statements apart). THE CARD IS WHAT COUNTS. Prove the row's statement (the work); the ties are given (YtjfdpfapcmcncaaGreatDoorTie.lean); close each card by the builder's one call (the guide's Derived/Test/ToyasCard.lean, 'card_holds'). Laid BY PROGRAM, IN A SANDBOX (cutbox-door.mjs). By AI agents, Wed Nov 11 2026. No macro, syntax, notation, axiom, sorry.
-/
import Derived.Test.YtjfdpfapcmcncaaGreatDoorRows
import GoSem.ClaimSeven
namespace Go.Proofs.YtjfdpfapcmcncaaGreatDoor
namespace Rows

/-- THE TIED CARD OF 'caddislaw13.CoverHolds'. -/
def coverHoldsCard : Claim7 := { stood := { row := coverHoldsRow, standIns := [], harness := (true, "3a452b777d45008bc90329a011185c7c6addd1cdeb43c71d0b7294a36fcbbdbb"), looks := false }, kinds := [], alts := [], laidByText := true, laidKinds := [.data, .data, .data, .data, .data, .pinned, .pinned], laidTests := true, laidLooks := .later }
def CoverHoldsCardSaid : Prop := Claim7.holds Tryz.pinned (.plain (OpenSpec.ofChange coverHoldsSpec)) coverHoldsCard

/-- THE TIED CARD OF 'caddislaw13.CoverLess'. -/
def coverLessCard : Claim7 := { stood := { row := coverLessRow, standIns := [], harness := (true, "3a452b777d45008bc90329a011185c7c6addd1cdeb43c71d0b7294a36fcbbdbb"), looks := false }, kinds := [], alts := [], laidByText := true, laidKinds := [.data, .data, .data, .data, .data, .pinned, .pinned], laidTests := true, laidLooks := .later }
def CoverLessCardSaid : Prop := Claim7.holds Tryz.pinned (.plain (OpenSpec.ofChange coverLessSpec)) coverLessCard

/-- THE TIED CARD OF 'caddislaw13.CoverRows'. -/
def coverRowsCard : Claim7 := { stood := { row := coverRowsRow, standIns := [], harness := (true, "3a452b777d45008bc90329a011185c7c6addd1cdeb43c71d0b7294a36fcbbdbb"), looks := false }, kinds := [], alts := [], laidByText := true, laidKinds := [.data, .data, .data, .data, .data, .pinned, .pinned], laidTests := true, laidLooks := .later }
def CoverRowsCardSaid : Prop := Claim7.holds Tryz.pinned (.plain (OpenSpec.ofChange coverRowsSpec)) coverRowsCard

/-- THE SECOND FORM's CARD OF 'caddislaw13.CoverHolds'. -/
def coverHoldsUptoCard : Claim7 := { stood := { row := coverHoldsUptoRow, standIns := [], harness := (true, "3a452b777d45008bc90329a011185c7c6addd1cdeb43c71d0b7294a36fcbbdbb"), looks := false }, kinds := [], alts := [], laidByText := true, laidKinds := [.data, .data, .data, .data, .data, .pinned, .pinned], laidTests := true, laidLooks := .later }
def CoverHoldsUptoCardSaid : Prop := Claim7.holds Tryz.pinned (.plain (OpenSpec.upto coverHoldsSpec)) coverHoldsUptoCard

/-- THE SECOND FORM's CARD OF 'caddislaw13.CoverLess'. -/
def coverLessUptoCard : Claim7 := { stood := { row := coverLessUptoRow, standIns := [], harness := (true, "3a452b777d45008bc90329a011185c7c6addd1cdeb43c71d0b7294a36fcbbdbb"), looks := false }, kinds := [], alts := [], laidByText := true, laidKinds := [.data, .data, .data, .data, .data, .pinned, .pinned], laidTests := true, laidLooks := .later }
def CoverLessUptoCardSaid : Prop := Claim7.holds Tryz.pinned (.plain (OpenSpec.upto coverLessSpec)) coverLessUptoCard

/-- THE SECOND FORM's CARD OF 'caddislaw13.CoverRows'. -/
def coverRowsUptoCard : Claim7 := { stood := { row := coverRowsUptoRow, standIns := [], harness := (true, "3a452b777d45008bc90329a011185c7c6addd1cdeb43c71d0b7294a36fcbbdbb"), looks := false }, kinds := [], alts := [], laidByText := true, laidKinds := [.data, .data, .data, .data, .data, .pinned, .pinned], laidTests := true, laidLooks := .later }
def CoverRowsUptoCardSaid : Prop := Claim7.holds Tryz.pinned (.plain (OpenSpec.upto coverRowsSpec)) coverRowsUptoCard
end Rows
end Go.Proofs.YtjfdpfapcmcncaaGreatDoor
