/-
  DERIVED. GIVEN WITH THE SEED: THE CARDS: each row of YtclgfoceefhnkaaGreatDoorRows.lean that lists a variable, with what it lists TIED to the program's text (the seventh form; the later family's looks); each row that meets fmt, with fmt's text TOLD by the authors' own Lean function (tested against real Go, not proved from fmt's source: count such statements apart). THE CARD IS WHAT COUNTS. Prove the row's statement (the work); the ties are given (YtclgfoceefhnkaaGreatDoorTie.lean); close each card by the builder's one call (the guide's Derived/Test/ToyasCard.lean, 'card_holds'). Laid BY PROGRAM, IN A SANDBOX (cutbox-door.mjs). By AI agents, Wed Nov 11 2026. No macro, syntax, notation, axiom, sorry.
-/
import Derived.Test.YtclgfoceefhnkaaGreatDoorRows
import GoSem.ClaimSeven
namespace Go.Proofs.YtclgfoceefhnkaaGreatDoor
namespace Rows

/-- THE TIED CARD OF 'setsquarelaw37.LocusKind'. -/
def locusKindCard : Claim7 := { stood := { row := locusKindRow, standIns := [], harness := (true, "01557bb3d5dcaf9e83197b140d98912eb53ddbff5a7a048a0f50321137498852"), looks := false }, kinds := [], alts := [], laidByText := true, laidKinds := [.data], laidTests := true, laidLooks := .later }
def LocusKindCardSaid : Prop := Claim7.holds Tryz.pinned (.plain (OpenSpec.ofChange locusKindSpec)) locusKindCard

/-- THE TIED CARD OF 'setsquarelaw37.LocusNearest'. -/
def locusNearestCard : Claim7 := { stood := { row := locusNearestRow, standIns := [], harness := (true, "01557bb3d5dcaf9e83197b140d98912eb53ddbff5a7a048a0f50321137498852"), looks := false }, kinds := [], alts := [], laidByText := true, laidKinds := [.data], laidTests := true, laidLooks := .later }
def LocusNearestCardSaid : Prop := Claim7.holds Tryz.pinned (.plain (OpenSpec.ofChange locusNearestSpec)) locusNearestCard

/-- THE TIED CARD OF 'setsquarelaw37.LocusCoords'. -/
def locusCoordsCard : Claim7 := { stood := { row := locusCoordsRow, standIns := [], harness := (true, "01557bb3d5dcaf9e83197b140d98912eb53ddbff5a7a048a0f50321137498852"), looks := false }, kinds := [], alts := [], laidByText := true, laidKinds := [.data], laidTests := true, laidLooks := .later }
def LocusCoordsCardSaid : Prop := Claim7.holds Tryz.pinned (.plain (OpenSpec.ofChange locusCoordsSpec)) locusCoordsCard

/-- THE TIED CARD OF 'setsquarelaw37.LocusRadius'. -/
def locusRadiusCard : Claim7 := { stood := { row := locusRadiusRow, standIns := [], harness := (true, "01557bb3d5dcaf9e83197b140d98912eb53ddbff5a7a048a0f50321137498852"), looks := false }, kinds := [], alts := [], laidByText := true, laidKinds := [.data], laidTests := true, laidLooks := .later }
def LocusRadiusCardSaid : Prop := Claim7.holds Tryz.pinned (.plain (OpenSpec.ofChange locusRadiusSpec)) locusRadiusCard

/-- THE TIED CARD OF 'setsquarelaw37.LocusOnly'. -/
def locusOnlyCard : Claim7 := { stood := { row := locusOnlyRow, standIns := [], harness := (true, "01557bb3d5dcaf9e83197b140d98912eb53ddbff5a7a048a0f50321137498852"), looks := false }, kinds := [], alts := [], laidByText := true, laidKinds := [.data], laidTests := true, laidLooks := .later }
def LocusOnlyCardSaid : Prop := Claim7.holds Tryz.pinned (.plain (OpenSpec.ofChange locusOnlySpec)) locusOnlyCard

/-- THE SECOND FORM's CARD OF 'setsquarelaw37.LocusKind'. -/
def locusKindUptoCard : Claim7 := { stood := { row := locusKindUptoRow, standIns := [], harness := (true, "01557bb3d5dcaf9e83197b140d98912eb53ddbff5a7a048a0f50321137498852"), looks := false }, kinds := [], alts := [], laidByText := true, laidKinds := [.data], laidTests := true, laidLooks := .later }
def LocusKindUptoCardSaid : Prop := Claim7.holds Tryz.pinned (.plain (OpenSpec.upto locusKindSpec)) locusKindUptoCard

/-- THE SECOND FORM's CARD OF 'setsquarelaw37.LocusNearest'. -/
def locusNearestUptoCard : Claim7 := { stood := { row := locusNearestUptoRow, standIns := [], harness := (true, "01557bb3d5dcaf9e83197b140d98912eb53ddbff5a7a048a0f50321137498852"), looks := false }, kinds := [], alts := [], laidByText := true, laidKinds := [.data], laidTests := true, laidLooks := .later }
def LocusNearestUptoCardSaid : Prop := Claim7.holds Tryz.pinned (.plain (OpenSpec.upto locusNearestSpec)) locusNearestUptoCard

/-- THE SECOND FORM's CARD OF 'setsquarelaw37.LocusCoords'. -/
def locusCoordsUptoCard : Claim7 := { stood := { row := locusCoordsUptoRow, standIns := [], harness := (true, "01557bb3d5dcaf9e83197b140d98912eb53ddbff5a7a048a0f50321137498852"), looks := false }, kinds := [], alts := [], laidByText := true, laidKinds := [.data], laidTests := true, laidLooks := .later }
def LocusCoordsUptoCardSaid : Prop := Claim7.holds Tryz.pinned (.plain (OpenSpec.upto locusCoordsSpec)) locusCoordsUptoCard

/-- THE SECOND FORM's CARD OF 'setsquarelaw37.LocusRadius'. -/
def locusRadiusUptoCard : Claim7 := { stood := { row := locusRadiusUptoRow, standIns := [], harness := (true, "01557bb3d5dcaf9e83197b140d98912eb53ddbff5a7a048a0f50321137498852"), looks := false }, kinds := [], alts := [], laidByText := true, laidKinds := [.data], laidTests := true, laidLooks := .later }
def LocusRadiusUptoCardSaid : Prop := Claim7.holds Tryz.pinned (.plain (OpenSpec.upto locusRadiusSpec)) locusRadiusUptoCard

/-- THE SECOND FORM's CARD OF 'setsquarelaw37.LocusOnly'. -/
def locusOnlyUptoCard : Claim7 := { stood := { row := locusOnlyUptoRow, standIns := [], harness := (true, "01557bb3d5dcaf9e83197b140d98912eb53ddbff5a7a048a0f50321137498852"), looks := false }, kinds := [], alts := [], laidByText := true, laidKinds := [.data], laidTests := true, laidLooks := .later }
def LocusOnlyUptoCardSaid : Prop := Claim7.holds Tryz.pinned (.plain (OpenSpec.upto locusOnlySpec)) locusOnlyUptoCard
end Rows
end Go.Proofs.YtclgfoceefhnkaaGreatDoor
