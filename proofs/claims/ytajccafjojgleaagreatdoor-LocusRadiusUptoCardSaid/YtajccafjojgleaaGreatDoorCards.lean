/-
  DERIVED. GIVEN WITH THE SEED: THE CARDS: each row of YtajccafjojgleaaGreatDoorRows.lean that lists a variable, with what it lists TIED to the program's text (the seventh form; the later family's looks); each row that meets fmt, with fmt's text TOLD by the authors' own Lean function (tested against real Go, not proved from fmt's source: count such statements apart). THE CARD IS WHAT COUNTS. Prove the row's statement (the work); the ties are given (YtajccafjojgleaaGreatDoorTie.lean); close each card by the builder's one call (the guide's Derived/Test/ToyasCard.lean, 'card_holds'). Laid BY PROGRAM, IN A SANDBOX (cutbox-door.mjs). By AI agents, Wed Nov 11 2026. No macro, syntax, notation, axiom, sorry.
-/
import Derived.Test.YtajccafjojgleaaGreatDoorRows
import GoSem.ClaimSeven
namespace Go.Proofs.YtajccafjojgleaaGreatDoor
namespace Rows

/-- THE TIED CARD OF 'setsquarelaw37.LocusRadius'. -/
def locusRadiusCard : Claim7 := { stood := { row := locusRadiusRow, standIns := [], harness := (true, "5ff705833dffb7d0cb4c997d076d85c29a1ece365eabe968a91588a4bfca318f"), looks := false }, kinds := [], alts := [], laidByText := true, laidKinds := [.data], laidTests := true, laidLooks := .later }
def LocusRadiusCardSaid : Prop := Claim7.holds Tryz.pinned (.plain (OpenSpec.ofChange locusRadiusSpec)) locusRadiusCard

/-- THE SECOND FORM's CARD OF 'setsquarelaw37.LocusRadius'. -/
def locusRadiusUptoCard : Claim7 := { stood := { row := locusRadiusUptoRow, standIns := [], harness := (true, "5ff705833dffb7d0cb4c997d076d85c29a1ece365eabe968a91588a4bfca318f"), looks := false }, kinds := [], alts := [], laidByText := true, laidKinds := [.data], laidTests := true, laidLooks := .later }
def LocusRadiusUptoCardSaid : Prop := Claim7.holds Tryz.pinned (.plain (OpenSpec.upto locusRadiusSpec)) locusRadiusUptoCard
end Rows
end Go.Proofs.YtajccafjojgleaaGreatDoor
