/-
  DERIVED. GIVEN WITH THE SEED: THE CARDS: each row of YtmifleedghiimaaGreatDoorRows.lean that lists a variable, with what it lists TIED to the program's text (the seventh form; the later family's looks); each row that meets fmt, with fmt's text TOLD by the authors' own Lean function (tested against real Go, not proved from fmt's source: count such statements apart). THE CARD IS WHAT COUNTS. Prove the row's statement (the work); the ties are given (YtmifleedghiimaaGreatDoorTie.lean); close each card by the builder's one call (the guide's Derived/Test/ToyasCard.lean, 'card_holds'). Laid BY PROGRAM, IN A SANDBOX (cutbox-door.mjs). By AI agents, Wed Nov 11 2026. No macro, syntax, notation, axiom, sorry.
-/
import Derived.Test.YtmifleedghiimaaGreatDoorRows
import GoSem.ClaimSeven
namespace Go.Proofs.YtmifleedghiimaaGreatDoor
namespace Rows

/-- THE TIED CARD OF 'setsquarelaw37.LocusOnly'. -/
def locusOnlyCard : Claim7 := { stood := { row := locusOnlyRow, standIns := [], harness := (true, "579a424e4f413addf8aac49768b54dc6a9c83abbadfba01310e08966afac30ec"), looks := false }, kinds := [], alts := [], laidByText := true, laidKinds := [.data], laidTests := true, laidLooks := .later }
def LocusOnlyCardSaid : Prop := Claim7.holds Tryz.pinned (.plain (OpenSpec.ofChange locusOnlySpec)) locusOnlyCard

/-- THE SECOND FORM's CARD OF 'setsquarelaw37.LocusOnly'. -/
def locusOnlyUptoCard : Claim7 := { stood := { row := locusOnlyUptoRow, standIns := [], harness := (true, "579a424e4f413addf8aac49768b54dc6a9c83abbadfba01310e08966afac30ec"), looks := false }, kinds := [], alts := [], laidByText := true, laidKinds := [.data], laidTests := true, laidLooks := .later }
def LocusOnlyUptoCardSaid : Prop := Claim7.holds Tryz.pinned (.plain (OpenSpec.upto locusOnlySpec)) locusOnlyUptoCard
end Rows
end Go.Proofs.YtmifleedghiimaaGreatDoor
