/-
  DERIVED. GIVEN WITH THE SEED: THE CARDS: each row of YtglppcmegocphaaGreatDoorRows.lean that lists a variable, with what it lists TIED to the program's text (the seventh form; the later family's looks); each row that meets fmt, with fmt's text TOLD by the authors' own Lean function (tested against real Go, not proved from fmt's source: count such statements apart). THE CARD IS WHAT COUNTS. Prove the row's statement (the work); the ties are given (YtglppcmegocphaaGreatDoorTie.lean); close each card by the builder's one call (the guide's Derived/Test/ToyasCard.lean, 'card_holds'). Laid BY PROGRAM, IN A SANDBOX (cutbox-door.mjs). By AI agents, Wed Nov 11 2026. No macro, syntax, notation, axiom, sorry.
-/
import Derived.Test.YtglppcmegocphaaGreatDoorRows
import GoSem.ClaimSeven
namespace Go.Proofs.YtglppcmegocphaaGreatDoor
namespace Rows

/-- THE TIED CARD OF 'klippelaw05.VectorPrimitive'. -/
def vectorPrimitiveCard : Claim7 := { stood := { row := vectorPrimitiveRow, standIns := [], harness := (true, "84d07012fd50eb136d9ca0dc72a462cc56ed8a23fb4f58f9d92d2421ed49c4f4"), looks := true }, kinds := [], alts := [], laidByText := true, laidKinds := [.data, .data, .data, .sentinel, .sentinel], laidTests := true, laidLooks := .later }
def VectorPrimitiveCardSaid : Prop := Claim7.holds Tryz.pinned (.plain (OpenSpec.ofChange vectorPrimitiveSpec)) vectorPrimitiveCard

/-- THE TIED CARD OF 'klippelaw05.VectorCommon'. -/
def vectorCommonCard : Claim7 := { stood := { row := vectorCommonRow, standIns := [], harness := (true, "84d07012fd50eb136d9ca0dc72a462cc56ed8a23fb4f58f9d92d2421ed49c4f4"), looks := true }, kinds := [], alts := [], laidByText := true, laidKinds := [.data, .data, .data, .sentinel, .sentinel], laidTests := true, laidLooks := .later }
def VectorCommonCardSaid : Prop := Claim7.holds Tryz.pinned (.plain (OpenSpec.ofChange vectorCommonSpec)) vectorCommonCard

/-- THE TIED CARD OF 'klippelaw05.VectorLaws'. -/
def vectorLawsCard : Claim7 := { stood := { row := vectorLawsRow, standIns := [], harness := (true, "84d07012fd50eb136d9ca0dc72a462cc56ed8a23fb4f58f9d92d2421ed49c4f4"), looks := true }, kinds := [], alts := [], laidByText := true, laidKinds := [.data, .data, .data, .sentinel, .sentinel], laidTests := true, laidLooks := .later }
def VectorLawsCardSaid : Prop := Claim7.holds Tryz.pinned (.plain (OpenSpec.ofChange vectorLawsSpec)) vectorLawsCard

/-- THE TIED CARD OF 'klippelaw05.VectorSums'. -/
def vectorSumsCard : Claim7 := { stood := { row := vectorSumsRow, standIns := [], harness := (true, "84d07012fd50eb136d9ca0dc72a462cc56ed8a23fb4f58f9d92d2421ed49c4f4"), looks := true }, kinds := [], alts := [], laidByText := true, laidKinds := [.data, .data, .data, .sentinel, .sentinel], laidTests := true, laidLooks := .later }
def VectorSumsCardSaid : Prop := Claim7.holds Tryz.pinned (.plain (OpenSpec.ofChange vectorSumsSpec)) vectorSumsCard

/-- THE TIED CARD OF 'klippelaw05.VectorLines'. -/
def vectorLinesCard : Claim7 := { stood := { row := vectorLinesRow, standIns := [], harness := (true, "84d07012fd50eb136d9ca0dc72a462cc56ed8a23fb4f58f9d92d2421ed49c4f4"), looks := true }, kinds := [], alts := [], laidByText := true, laidKinds := [.data, .data, .data, .sentinel, .sentinel], laidTests := true, laidLooks := .later }
def VectorLinesCardSaid : Prop := Claim7.holds Tryz.pinned (.plain (OpenSpec.ofChange vectorLinesSpec)) vectorLinesCard

/-- THE TIED CARD OF 'klippelaw05.VectorLineErrors'. -/
def vectorLineErrorsCard : Claim7 := { stood := { row := vectorLineErrorsRow, standIns := [], harness := (true, "84d07012fd50eb136d9ca0dc72a462cc56ed8a23fb4f58f9d92d2421ed49c4f4"), looks := true }, kinds := [], alts := [], laidByText := true, laidKinds := [.data, .data, .data, .sentinel, .sentinel], laidTests := true, laidLooks := .later }
def VectorLineErrorsCardSaid : Prop := Claim7.holds Tryz.pinned (.plain (OpenSpec.ofChange vectorLineErrorsSpec)) vectorLineErrorsCard

/-- THE TIED CARD OF 'klippelaw05.VectorPlanes'. -/
def vectorPlanesCard : Claim7 := { stood := { row := vectorPlanesRow, standIns := [], harness := (true, "84d07012fd50eb136d9ca0dc72a462cc56ed8a23fb4f58f9d92d2421ed49c4f4"), looks := true }, kinds := [], alts := [], laidByText := true, laidKinds := [.data, .data, .data, .sentinel, .sentinel], laidTests := true, laidLooks := .later }
def VectorPlanesCardSaid : Prop := Claim7.holds Tryz.pinned (.plain (OpenSpec.ofChange vectorPlanesSpec)) vectorPlanesCard

/-- THE TIED CARD OF 'klippelaw05.VectorErrors'. -/
def vectorErrorsCard : Claim7 := { stood := { row := vectorErrorsRow, standIns := [], harness := (true, "84d07012fd50eb136d9ca0dc72a462cc56ed8a23fb4f58f9d92d2421ed49c4f4"), looks := true }, kinds := [], alts := [], laidByText := true, laidKinds := [.data, .data, .data, .sentinel, .sentinel], laidTests := true, laidLooks := .later }
def VectorErrorsCardSaid : Prop := Claim7.holds Tryz.pinned (.plain (OpenSpec.ofChange vectorErrorsSpec)) vectorErrorsCard

/-- THE TIED CARD OF 'klippelaw05.VectorTurns'. -/
def vectorTurnsCard : Claim7 := { stood := { row := vectorTurnsRow, standIns := [], harness := (true, "84d07012fd50eb136d9ca0dc72a462cc56ed8a23fb4f58f9d92d2421ed49c4f4"), looks := true }, kinds := [], alts := [], laidByText := true, laidKinds := [.data, .data, .data, .sentinel, .sentinel], laidTests := true, laidLooks := .later }
def VectorTurnsCardSaid : Prop := Claim7.holds Tryz.pinned (.plain (OpenSpec.ofChange vectorTurnsSpec)) vectorTurnsCard

/-- THE TIED CARD OF 'klippelaw05.VectorPoints'. -/
def vectorPointsCard : Claim7 := { stood := { row := vectorPointsRow, standIns := [], harness := (true, "84d07012fd50eb136d9ca0dc72a462cc56ed8a23fb4f58f9d92d2421ed49c4f4"), looks := true }, kinds := [], alts := [], laidByText := true, laidKinds := [.data, .data, .data, .sentinel, .sentinel], laidTests := true, laidLooks := .later }
def VectorPointsCardSaid : Prop := Claim7.holds Tryz.pinned (.plain (OpenSpec.ofChange vectorPointsSpec)) vectorPointsCard

/-- THE SECOND FORM's CARD OF 'klippelaw05.VectorPrimitive'. -/
def vectorPrimitiveUptoCard : Claim7 := { stood := { row := vectorPrimitiveUptoRow, standIns := [], harness := (true, "84d07012fd50eb136d9ca0dc72a462cc56ed8a23fb4f58f9d92d2421ed49c4f4"), looks := true }, kinds := [], alts := [], laidByText := true, laidKinds := [.data, .data, .data, .sentinel, .sentinel], laidTests := true, laidLooks := .later }
def VectorPrimitiveUptoCardSaid : Prop := Claim7.holds Tryz.pinned (.plain (OpenSpec.upto vectorPrimitiveSpec)) vectorPrimitiveUptoCard

/-- THE SECOND FORM's CARD OF 'klippelaw05.VectorCommon'. -/
def vectorCommonUptoCard : Claim7 := { stood := { row := vectorCommonUptoRow, standIns := [], harness := (true, "84d07012fd50eb136d9ca0dc72a462cc56ed8a23fb4f58f9d92d2421ed49c4f4"), looks := true }, kinds := [], alts := [], laidByText := true, laidKinds := [.data, .data, .data, .sentinel, .sentinel], laidTests := true, laidLooks := .later }
def VectorCommonUptoCardSaid : Prop := Claim7.holds Tryz.pinned (.plain (OpenSpec.upto vectorCommonSpec)) vectorCommonUptoCard

/-- THE SECOND FORM's CARD OF 'klippelaw05.VectorLaws'. -/
def vectorLawsUptoCard : Claim7 := { stood := { row := vectorLawsUptoRow, standIns := [], harness := (true, "84d07012fd50eb136d9ca0dc72a462cc56ed8a23fb4f58f9d92d2421ed49c4f4"), looks := true }, kinds := [], alts := [], laidByText := true, laidKinds := [.data, .data, .data, .sentinel, .sentinel], laidTests := true, laidLooks := .later }
def VectorLawsUptoCardSaid : Prop := Claim7.holds Tryz.pinned (.plain (OpenSpec.upto vectorLawsSpec)) vectorLawsUptoCard

/-- THE SECOND FORM's CARD OF 'klippelaw05.VectorSums'. -/
def vectorSumsUptoCard : Claim7 := { stood := { row := vectorSumsUptoRow, standIns := [], harness := (true, "84d07012fd50eb136d9ca0dc72a462cc56ed8a23fb4f58f9d92d2421ed49c4f4"), looks := true }, kinds := [], alts := [], laidByText := true, laidKinds := [.data, .data, .data, .sentinel, .sentinel], laidTests := true, laidLooks := .later }
def VectorSumsUptoCardSaid : Prop := Claim7.holds Tryz.pinned (.plain (OpenSpec.upto vectorSumsSpec)) vectorSumsUptoCard

/-- THE SECOND FORM's CARD OF 'klippelaw05.VectorLines'. -/
def vectorLinesUptoCard : Claim7 := { stood := { row := vectorLinesUptoRow, standIns := [], harness := (true, "84d07012fd50eb136d9ca0dc72a462cc56ed8a23fb4f58f9d92d2421ed49c4f4"), looks := true }, kinds := [], alts := [], laidByText := true, laidKinds := [.data, .data, .data, .sentinel, .sentinel], laidTests := true, laidLooks := .later }
def VectorLinesUptoCardSaid : Prop := Claim7.holds Tryz.pinned (.plain (OpenSpec.upto vectorLinesSpec)) vectorLinesUptoCard

/-- THE SECOND FORM's CARD OF 'klippelaw05.VectorLineErrors'. -/
def vectorLineErrorsUptoCard : Claim7 := { stood := { row := vectorLineErrorsUptoRow, standIns := [], harness := (true, "84d07012fd50eb136d9ca0dc72a462cc56ed8a23fb4f58f9d92d2421ed49c4f4"), looks := true }, kinds := [], alts := [], laidByText := true, laidKinds := [.data, .data, .data, .sentinel, .sentinel], laidTests := true, laidLooks := .later }
def VectorLineErrorsUptoCardSaid : Prop := Claim7.holds Tryz.pinned (.plain (OpenSpec.upto vectorLineErrorsSpec)) vectorLineErrorsUptoCard

/-- THE SECOND FORM's CARD OF 'klippelaw05.VectorPlanes'. -/
def vectorPlanesUptoCard : Claim7 := { stood := { row := vectorPlanesUptoRow, standIns := [], harness := (true, "84d07012fd50eb136d9ca0dc72a462cc56ed8a23fb4f58f9d92d2421ed49c4f4"), looks := true }, kinds := [], alts := [], laidByText := true, laidKinds := [.data, .data, .data, .sentinel, .sentinel], laidTests := true, laidLooks := .later }
def VectorPlanesUptoCardSaid : Prop := Claim7.holds Tryz.pinned (.plain (OpenSpec.upto vectorPlanesSpec)) vectorPlanesUptoCard

/-- THE SECOND FORM's CARD OF 'klippelaw05.VectorErrors'. -/
def vectorErrorsUptoCard : Claim7 := { stood := { row := vectorErrorsUptoRow, standIns := [], harness := (true, "84d07012fd50eb136d9ca0dc72a462cc56ed8a23fb4f58f9d92d2421ed49c4f4"), looks := true }, kinds := [], alts := [], laidByText := true, laidKinds := [.data, .data, .data, .sentinel, .sentinel], laidTests := true, laidLooks := .later }
def VectorErrorsUptoCardSaid : Prop := Claim7.holds Tryz.pinned (.plain (OpenSpec.upto vectorErrorsSpec)) vectorErrorsUptoCard

/-- THE SECOND FORM's CARD OF 'klippelaw05.VectorTurns'. -/
def vectorTurnsUptoCard : Claim7 := { stood := { row := vectorTurnsUptoRow, standIns := [], harness := (true, "84d07012fd50eb136d9ca0dc72a462cc56ed8a23fb4f58f9d92d2421ed49c4f4"), looks := true }, kinds := [], alts := [], laidByText := true, laidKinds := [.data, .data, .data, .sentinel, .sentinel], laidTests := true, laidLooks := .later }
def VectorTurnsUptoCardSaid : Prop := Claim7.holds Tryz.pinned (.plain (OpenSpec.upto vectorTurnsSpec)) vectorTurnsUptoCard

/-- THE SECOND FORM's CARD OF 'klippelaw05.VectorPoints'. -/
def vectorPointsUptoCard : Claim7 := { stood := { row := vectorPointsUptoRow, standIns := [], harness := (true, "84d07012fd50eb136d9ca0dc72a462cc56ed8a23fb4f58f9d92d2421ed49c4f4"), looks := true }, kinds := [], alts := [], laidByText := true, laidKinds := [.data, .data, .data, .sentinel, .sentinel], laidTests := true, laidLooks := .later }
def VectorPointsUptoCardSaid : Prop := Claim7.holds Tryz.pinned (.plain (OpenSpec.upto vectorPointsSpec)) vectorPointsUptoCard
end Rows
end Go.Proofs.YtglppcmegocphaaGreatDoor
