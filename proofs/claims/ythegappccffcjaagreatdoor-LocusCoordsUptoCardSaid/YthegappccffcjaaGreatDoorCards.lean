/-
  DERIVED. GIVEN WITH THE SEED: THE CARDS: each row of YthegappccffcjaaGreatDoorRows.lean that lists a variable, with what it lists TIED to the program's text (the seventh form; the later family's looks); each row that meets fmt, with fmt's text TOLD by the authors' own Lean function (tested against real Go, not proved from fmt's source: count such statements apart). THE CARD IS WHAT COUNTS. Prove the row's statement (the work); the ties are given (YthegappccffcjaaGreatDoorTie.lean); close each card by the builder's one call (the guide's Derived/Test/ToyasCard.lean, 'card_holds'). Laid BY PROGRAM, IN A SANDBOX (cutbox-door.mjs). By AI agents, Wed Nov 11 2026. No macro, syntax, notation, axiom, sorry.
-/
import Derived.Test.YthegappccffcjaaGreatDoorRows
import GoSem.ClaimSeven
namespace Go.Proofs.YthegappccffcjaaGreatDoor
namespace Rows

/-- THE TIED CARD OF 'setsquarelaw37.LocusCoords'. -/
def locusCoordsCard : Claim7 := { stood := { row := locusCoordsRow, standIns := [], harness := (true, "3f405e00a26141870f517d5996cd88760a7208cdff3c8d748afbcfda4f774a60"), looks := false }, kinds := [], alts := [], laidByText := true, laidKinds := [.data], laidTests := true, laidLooks := .later }
def LocusCoordsCardSaid : Prop := Claim7.holds Tryz.pinned (.plain (OpenSpec.ofChange locusCoordsSpec)) locusCoordsCard

/-- THE SECOND FORM's CARD OF 'setsquarelaw37.LocusCoords'. -/
def locusCoordsUptoCard : Claim7 := { stood := { row := locusCoordsUptoRow, standIns := [], harness := (true, "3f405e00a26141870f517d5996cd88760a7208cdff3c8d748afbcfda4f774a60"), looks := false }, kinds := [], alts := [], laidByText := true, laidKinds := [.data], laidTests := true, laidLooks := .later }
def LocusCoordsUptoCardSaid : Prop := Claim7.holds Tryz.pinned (.plain (OpenSpec.upto locusCoordsSpec)) locusCoordsUptoCard
end Rows
end Go.Proofs.YthegappccffcjaaGreatDoor
