/-
  DERIVED. GIVEN WITH THE SEED: THE CARDS: each row of YtmahadmefplbnaaGreatDoorRows.lean that lists a variable, with what it lists TIED to the program's text (the seventh form; the later family's looks); each row that meets fmt, with fmt's text TOLD by the authors' own Lean function (tested against real Go, not proved from fmt's source: count such statements apart). THE CARD IS WHAT COUNTS. Prove the row's statement (the work); the ties are given (YtmahadmefplbnaaGreatDoorTie.lean); close each card by the builder's one call (the guide's Derived/Test/ToyasCard.lean, 'card_holds'). Laid BY PROGRAM, IN A SANDBOX (cutbox-door.mjs). By AI agents, Wed Nov 11 2026. No macro, syntax, notation, axiom, sorry.
-/
import Derived.Test.YtmahadmefplbnaaGreatDoorRows
import GoSem.ClaimSeven
namespace Go.Proofs.YtmahadmefplbnaaGreatDoor
namespace Rows

/-- THE TIED CARD OF 'klippetop.TopDualsAreAccepted'. -/
def topDualsAreAcceptedCard : Claim7 := { stood := { row := topDualsAreAcceptedRow, standIns := [], harness := (true, "6b32fb7a2d0703c8d505301b77b41ea983fbf203fe7922d75d5e0bafb103744e"), looks := true }, kinds := [], alts := [], laidByText := true, laidKinds := [.data, .data, .data, .sentinel, .sentinel], laidTests := true, laidLooks := .later }
def TopDualsAreAcceptedCardSaid : Prop := Claim7.holds Tryz.pinned (.plain (OpenSpec.ofChange topDualsAreAcceptedSpec)) topDualsAreAcceptedCard

/-- THE TIED CARD OF 'klippelaw07.ProgramRanges'. -/
def programRangesCard : Claim7 := { stood := { row := programRangesRow, standIns := [], harness := (true, "6b32fb7a2d0703c8d505301b77b41ea983fbf203fe7922d75d5e0bafb103744e"), looks := true }, kinds := [], alts := [], laidByText := true, laidKinds := [.data, .data, .data, .sentinel, .sentinel], laidTests := true, laidLooks := .later }
def ProgramRangesCardSaid : Prop := Claim7.holds Tryz.pinned (.plain (OpenSpec.ofChange programRangesSpec)) programRangesCard

/-- THE TIED CARD OF 'klippelaw07.ProgramVerifies'. -/
def programVerifiesCard : Claim7 := { stood := { row := programVerifiesRow, standIns := [], harness := (true, "6b32fb7a2d0703c8d505301b77b41ea983fbf203fe7922d75d5e0bafb103744e"), looks := true }, kinds := [], alts := [], laidByText := true, laidKinds := [.data, .data, .data, .sentinel, .sentinel], laidTests := true, laidLooks := .later }
def ProgramVerifiesCardSaid : Prop := Claim7.holds Tryz.pinned (.plain (OpenSpec.ofChange programVerifiesSpec)) programVerifiesCard

/-- THE TIED CARD OF 'klippelaw19.FittingGrows'. -/
def fittingGrowsCard : Claim7 := { stood := { row := fittingGrowsRow, standIns := [], harness := (true, "6b32fb7a2d0703c8d505301b77b41ea983fbf203fe7922d75d5e0bafb103744e"), looks := true }, kinds := [], alts := [], laidByText := true, laidKinds := [.data, .data, .data, .sentinel, .sentinel], laidTests := true, laidLooks := .later }
def FittingGrowsCardSaid : Prop := Claim7.holds Tryz.pinned (.plain (OpenSpec.ofChange fittingGrowsSpec)) fittingGrowsCard

/-- THE TIED CARD OF 'klippelaw19.FittingLaws'. -/
def fittingLawsCard : Claim7 := { stood := { row := fittingLawsRow, standIns := [], harness := (true, "6b32fb7a2d0703c8d505301b77b41ea983fbf203fe7922d75d5e0bafb103744e"), looks := true }, kinds := [], alts := [], laidByText := true, laidKinds := [.data, .data, .data, .sentinel, .sentinel], laidTests := true, laidLooks := .later }
def FittingLawsCardSaid : Prop := Claim7.holds Tryz.pinned (.plain (OpenSpec.ofChange fittingLawsSpec)) fittingLawsCard

/-- THE TIED CARD OF 'klippelaw19.FittingPlanes'. -/
def fittingPlanesCard : Claim7 := { stood := { row := fittingPlanesRow, standIns := [], harness := (true, "6b32fb7a2d0703c8d505301b77b41ea983fbf203fe7922d75d5e0bafb103744e"), looks := true }, kinds := [], alts := [], laidByText := true, laidKinds := [.data, .data, .data, .sentinel, .sentinel], laidTests := true, laidLooks := .later }
def FittingPlanesCardSaid : Prop := Claim7.holds Tryz.pinned (.plain (OpenSpec.ofChange fittingPlanesSpec)) fittingPlanesCard

/-- THE TIED CARD OF 'klippelaw19.FittingPlaces'. -/
def fittingPlacesCard : Claim7 := { stood := { row := fittingPlacesRow, standIns := [], harness := (true, "6b32fb7a2d0703c8d505301b77b41ea983fbf203fe7922d75d5e0bafb103744e"), looks := true }, kinds := [], alts := [], laidByText := true, laidKinds := [.data, .data, .data, .sentinel, .sentinel], laidTests := true, laidLooks := .later }
def FittingPlacesCardSaid : Prop := Claim7.holds Tryz.pinned (.plain (OpenSpec.ofChange fittingPlacesSpec)) fittingPlacesCard

/-- THE TIED CARD OF 'klippelaw19.FittingVerifies'. -/
def fittingVerifiesCard : Claim7 := { stood := { row := fittingVerifiesRow, standIns := [], harness := (true, "6b32fb7a2d0703c8d505301b77b41ea983fbf203fe7922d75d5e0bafb103744e"), looks := true }, kinds := [], alts := [], laidByText := true, laidKinds := [.data, .data, .data, .sentinel, .sentinel], laidTests := true, laidLooks := .later }
def FittingVerifiesCardSaid : Prop := Claim7.holds Tryz.pinned (.plain (OpenSpec.ofChange fittingVerifiesSpec)) fittingVerifiesCard

/-- THE SECOND FORM's CARD OF 'klippetop.TopDualsAreAccepted'. -/
def topDualsAreAcceptedUptoCard : Claim7 := { stood := { row := topDualsAreAcceptedUptoRow, standIns := [], harness := (true, "6b32fb7a2d0703c8d505301b77b41ea983fbf203fe7922d75d5e0bafb103744e"), looks := true }, kinds := [], alts := [], laidByText := true, laidKinds := [.data, .data, .data, .sentinel, .sentinel], laidTests := true, laidLooks := .later }
def TopDualsAreAcceptedUptoCardSaid : Prop := Claim7.holds Tryz.pinned (.plain (OpenSpec.upto topDualsAreAcceptedSpec)) topDualsAreAcceptedUptoCard

/-- THE SECOND FORM's CARD OF 'klippelaw07.ProgramRanges'. -/
def programRangesUptoCard : Claim7 := { stood := { row := programRangesUptoRow, standIns := [], harness := (true, "6b32fb7a2d0703c8d505301b77b41ea983fbf203fe7922d75d5e0bafb103744e"), looks := true }, kinds := [], alts := [], laidByText := true, laidKinds := [.data, .data, .data, .sentinel, .sentinel], laidTests := true, laidLooks := .later }
def ProgramRangesUptoCardSaid : Prop := Claim7.holds Tryz.pinned (.plain (OpenSpec.upto programRangesSpec)) programRangesUptoCard

/-- THE SECOND FORM's CARD OF 'klippelaw07.ProgramVerifies'. -/
def programVerifiesUptoCard : Claim7 := { stood := { row := programVerifiesUptoRow, standIns := [], harness := (true, "6b32fb7a2d0703c8d505301b77b41ea983fbf203fe7922d75d5e0bafb103744e"), looks := true }, kinds := [], alts := [], laidByText := true, laidKinds := [.data, .data, .data, .sentinel, .sentinel], laidTests := true, laidLooks := .later }
def ProgramVerifiesUptoCardSaid : Prop := Claim7.holds Tryz.pinned (.plain (OpenSpec.upto programVerifiesSpec)) programVerifiesUptoCard

/-- THE SECOND FORM's CARD OF 'klippelaw19.FittingGrows'. -/
def fittingGrowsUptoCard : Claim7 := { stood := { row := fittingGrowsUptoRow, standIns := [], harness := (true, "6b32fb7a2d0703c8d505301b77b41ea983fbf203fe7922d75d5e0bafb103744e"), looks := true }, kinds := [], alts := [], laidByText := true, laidKinds := [.data, .data, .data, .sentinel, .sentinel], laidTests := true, laidLooks := .later }
def FittingGrowsUptoCardSaid : Prop := Claim7.holds Tryz.pinned (.plain (OpenSpec.upto fittingGrowsSpec)) fittingGrowsUptoCard

/-- THE SECOND FORM's CARD OF 'klippelaw19.FittingLaws'. -/
def fittingLawsUptoCard : Claim7 := { stood := { row := fittingLawsUptoRow, standIns := [], harness := (true, "6b32fb7a2d0703c8d505301b77b41ea983fbf203fe7922d75d5e0bafb103744e"), looks := true }, kinds := [], alts := [], laidByText := true, laidKinds := [.data, .data, .data, .sentinel, .sentinel], laidTests := true, laidLooks := .later }
def FittingLawsUptoCardSaid : Prop := Claim7.holds Tryz.pinned (.plain (OpenSpec.upto fittingLawsSpec)) fittingLawsUptoCard

/-- THE SECOND FORM's CARD OF 'klippelaw19.FittingPlanes'. -/
def fittingPlanesUptoCard : Claim7 := { stood := { row := fittingPlanesUptoRow, standIns := [], harness := (true, "6b32fb7a2d0703c8d505301b77b41ea983fbf203fe7922d75d5e0bafb103744e"), looks := true }, kinds := [], alts := [], laidByText := true, laidKinds := [.data, .data, .data, .sentinel, .sentinel], laidTests := true, laidLooks := .later }
def FittingPlanesUptoCardSaid : Prop := Claim7.holds Tryz.pinned (.plain (OpenSpec.upto fittingPlanesSpec)) fittingPlanesUptoCard

/-- THE SECOND FORM's CARD OF 'klippelaw19.FittingPlaces'. -/
def fittingPlacesUptoCard : Claim7 := { stood := { row := fittingPlacesUptoRow, standIns := [], harness := (true, "6b32fb7a2d0703c8d505301b77b41ea983fbf203fe7922d75d5e0bafb103744e"), looks := true }, kinds := [], alts := [], laidByText := true, laidKinds := [.data, .data, .data, .sentinel, .sentinel], laidTests := true, laidLooks := .later }
def FittingPlacesUptoCardSaid : Prop := Claim7.holds Tryz.pinned (.plain (OpenSpec.upto fittingPlacesSpec)) fittingPlacesUptoCard

/-- THE SECOND FORM's CARD OF 'klippelaw19.FittingVerifies'. -/
def fittingVerifiesUptoCard : Claim7 := { stood := { row := fittingVerifiesUptoRow, standIns := [], harness := (true, "6b32fb7a2d0703c8d505301b77b41ea983fbf203fe7922d75d5e0bafb103744e"), looks := true }, kinds := [], alts := [], laidByText := true, laidKinds := [.data, .data, .data, .sentinel, .sentinel], laidTests := true, laidLooks := .later }
def FittingVerifiesUptoCardSaid : Prop := Claim7.holds Tryz.pinned (.plain (OpenSpec.upto fittingVerifiesSpec)) fittingVerifiesUptoCard
end Rows
end Go.Proofs.YtmahadmefplbnaaGreatDoor
