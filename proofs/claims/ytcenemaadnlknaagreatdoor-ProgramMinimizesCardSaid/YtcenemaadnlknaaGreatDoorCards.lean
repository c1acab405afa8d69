/-
  DERIVED. GIVEN WITH THE SEED: THE CARDS: each row of YtcenemaadnlknaaGreatDoorRows.lean that lists a variable, with what it lists TIED to the program's text (the seventh form; the later family's looks); each row that meets fmt, with fmt's text TOLD by the authors' own Lean function (tested against real Go, not proved from fmt's source: count such statements apart). THE CARD IS WHAT COUNTS. Prove the row's statement (the work); the ties are given (YtcenemaadnlknaaGreatDoorTie.lean); close each card by the builder's one call (the guide's Derived/Test/ToyasCard.lean, 'card_holds'). Laid BY PROGRAM, IN A SANDBOX (cutbox-door.mjs). By AI agents, Wed Nov 11 2026. No macro, syntax, notation, axiom, sorry.
-/
import Derived.Test.YtcenemaadnlknaaGreatDoorRows
import GoSem.ClaimSeven
namespace Go.Proofs.YtcenemaadnlknaaGreatDoor
namespace Rows

/-- THE TIED CARD OF 'klippelaw07.ProgramRanges'. -/
def programRangesCard : Claim7 := { stood := { row := programRangesRow, standIns := [], harness := (true, "6af62280ee1d0ae5f597f12a631978d0ff3bd9cab581cece5c8ec93414c82f97"), looks := true }, kinds := [], alts := [], laidByText := true, laidKinds := [.data, .data, .data, .sentinel, .sentinel], laidTests := true, laidLooks := .later }
def ProgramRangesCardSaid : Prop := Claim7.holds Tryz.pinned (.plain (OpenSpec.ofChange programRangesSpec)) programRangesCard

/-- THE TIED CARD OF 'klippelaw07.ProgramGrows'. -/
def programGrowsCard : Claim7 := { stood := { row := programGrowsRow, standIns := [], harness := (true, "6af62280ee1d0ae5f597f12a631978d0ff3bd9cab581cece5c8ec93414c82f97"), looks := true }, kinds := [], alts := [], laidByText := true, laidKinds := [.data, .data, .data, .sentinel, .sentinel], laidTests := true, laidLooks := .later }
def ProgramGrowsCardSaid : Prop := Claim7.holds Tryz.pinned (.plain (OpenSpec.ofChange programGrowsSpec)) programGrowsCard

/-- THE TIED CARD OF 'klippelaw07.ProgramFeasible'. -/
def programFeasibleCard : Claim7 := { stood := { row := programFeasibleRow, standIns := [], harness := (true, "6af62280ee1d0ae5f597f12a631978d0ff3bd9cab581cece5c8ec93414c82f97"), looks := true }, kinds := [], alts := [], laidByText := true, laidKinds := [.data, .data, .data, .sentinel, .sentinel], laidTests := true, laidLooks := .later }
def ProgramFeasibleCardSaid : Prop := Claim7.holds Tryz.pinned (.plain (OpenSpec.ofChange programFeasibleSpec)) programFeasibleCard

/-- THE TIED CARD OF 'klippelaw07.ProgramCores'. -/
def programCoresCard : Claim7 := { stood := { row := programCoresRow, standIns := [], harness := (true, "6af62280ee1d0ae5f597f12a631978d0ff3bd9cab581cece5c8ec93414c82f97"), looks := true }, kinds := [], alts := [], laidByText := true, laidKinds := [.data, .data, .data, .sentinel, .sentinel], laidTests := true, laidLooks := .later }
def ProgramCoresCardSaid : Prop := Claim7.holds Tryz.pinned (.plain (OpenSpec.ofChange programCoresSpec)) programCoresCard

/-- THE TIED CARD OF 'klippelaw07.ProgramDuals'. -/
def programDualsCard : Claim7 := { stood := { row := programDualsRow, standIns := [], harness := (true, "6af62280ee1d0ae5f597f12a631978d0ff3bd9cab581cece5c8ec93414c82f97"), looks := true }, kinds := [], alts := [], laidByText := true, laidKinds := [.data, .data, .data, .sentinel, .sentinel], laidTests := true, laidLooks := .later }
def ProgramDualsCardSaid : Prop := Claim7.holds Tryz.pinned (.plain (OpenSpec.ofChange programDualsSpec)) programDualsCard

/-- THE TIED CARD OF 'klippelaw07.ProgramPoints'. -/
def programPointsCard : Claim7 := { stood := { row := programPointsRow, standIns := [], harness := (true, "6af62280ee1d0ae5f597f12a631978d0ff3bd9cab581cece5c8ec93414c82f97"), looks := true }, kinds := [], alts := [], laidByText := true, laidKinds := [.data, .data, .data, .sentinel, .sentinel], laidTests := true, laidLooks := .later }
def ProgramPointsCardSaid : Prop := Claim7.holds Tryz.pinned (.plain (OpenSpec.ofChange programPointsSpec)) programPointsCard

/-- THE TIED CARD OF 'klippelaw07.ProgramMinimizes'. -/
def programMinimizesCard : Claim7 := { stood := { row := programMinimizesRow, standIns := [], harness := (true, "6af62280ee1d0ae5f597f12a631978d0ff3bd9cab581cece5c8ec93414c82f97"), looks := true }, kinds := [], alts := [], laidByText := true, laidKinds := [.data, .data, .data, .sentinel, .sentinel], laidTests := true, laidLooks := .later }
def ProgramMinimizesCardSaid : Prop := Claim7.holds Tryz.pinned (.plain (OpenSpec.ofChange programMinimizesSpec)) programMinimizesCard

/-- THE TIED CARD OF 'klippelaw07.ProgramVerifies'. -/
def programVerifiesCard : Claim7 := { stood := { row := programVerifiesRow, standIns := [], harness := (true, "6af62280ee1d0ae5f597f12a631978d0ff3bd9cab581cece5c8ec93414c82f97"), looks := true }, kinds := [], alts := [], laidByText := true, laidKinds := [.data, .data, .data, .sentinel, .sentinel], laidTests := true, laidLooks := .later }
def ProgramVerifiesCardSaid : Prop := Claim7.holds Tryz.pinned (.plain (OpenSpec.ofChange programVerifiesSpec)) programVerifiesCard

/-- THE SECOND FORM's CARD OF 'klippelaw07.ProgramRanges'. -/
def programRangesUptoCard : Claim7 := { stood := { row := programRangesUptoRow, standIns := [], harness := (true, "6af62280ee1d0ae5f597f12a631978d0ff3bd9cab581cece5c8ec93414c82f97"), looks := true }, kinds := [], alts := [], laidByText := true, laidKinds := [.data, .data, .data, .sentinel, .sentinel], laidTests := true, laidLooks := .later }
def ProgramRangesUptoCardSaid : Prop := Claim7.holds Tryz.pinned (.plain (OpenSpec.upto programRangesSpec)) programRangesUptoCard

/-- THE SECOND FORM's CARD OF 'klippelaw07.ProgramGrows'. -/
def programGrowsUptoCard : Claim7 := { stood := { row := programGrowsUptoRow, standIns := [], harness := (true, "6af62280ee1d0ae5f597f12a631978d0ff3bd9cab581cece5c8ec93414c82f97"), looks := true }, kinds := [], alts := [], laidByText := true, laidKinds := [.data, .data, .data, .sentinel, .sentinel], laidTests := true, laidLooks := .later }
def ProgramGrowsUptoCardSaid : Prop := Claim7.holds Tryz.pinned (.plain (OpenSpec.upto programGrowsSpec)) programGrowsUptoCard

/-- THE SECOND FORM's CARD OF 'klippelaw07.ProgramFeasible'. -/
def programFeasibleUptoCard : Claim7 := { stood := { row := programFeasibleUptoRow, standIns := [], harness := (true, "6af62280ee1d0ae5f597f12a631978d0ff3bd9cab581cece5c8ec93414c82f97"), looks := true }, kinds := [], alts := [], laidByText := true, laidKinds := [.data, .data, .data, .sentinel, .sentinel], laidTests := true, laidLooks := .later }
def ProgramFeasibleUptoCardSaid : Prop := Claim7.holds Tryz.pinned (.plain (OpenSpec.upto programFeasibleSpec)) programFeasibleUptoCard

/-- THE SECOND FORM's CARD OF 'klippelaw07.ProgramCores'. -/
def programCoresUptoCard : Claim7 := { stood := { row := programCoresUptoRow, standIns := [], harness := (true, "6af62280ee1d0ae5f597f12a631978d0ff3bd9cab581cece5c8ec93414c82f97"), looks := true }, kinds := [], alts := [], laidByText := true, laidKinds := [.data, .data, .data, .sentinel, .sentinel], laidTests := true, laidLooks := .later }
def ProgramCoresUptoCardSaid : Prop := Claim7.holds Tryz.pinned (.plain (OpenSpec.upto programCoresSpec)) programCoresUptoCard

/-- THE SECOND FORM's CARD OF 'klippelaw07.ProgramDuals'. -/
def programDualsUptoCard : Claim7 := { stood := { row := programDualsUptoRow, standIns := [], harness := (true, "6af62280ee1d0ae5f597f12a631978d0ff3bd9cab581cece5c8ec93414c82f97"), looks := true }, kinds := [], alts := [], laidByText := true, laidKinds := [.data, .data, .data, .sentinel, .sentinel], laidTests := true, laidLooks := .later }
def ProgramDualsUptoCardSaid : Prop := Claim7.holds Tryz.pinned (.plain (OpenSpec.upto programDualsSpec)) programDualsUptoCard

/-- THE SECOND FORM's CARD OF 'klippelaw07.ProgramPoints'. -/
def programPointsUptoCard : Claim7 := { stood := { row := programPointsUptoRow, standIns := [], harness := (true, "6af62280ee1d0ae5f597f12a631978d0ff3bd9cab581cece5c8ec93414c82f97"), looks := true }, kinds := [], alts := [], laidByText := true, laidKinds := [.data, .data, .data, .sentinel, .sentinel], laidTests := true, laidLooks := .later }
def ProgramPointsUptoCardSaid : Prop := Claim7.holds Tryz.pinned (.plain (OpenSpec.upto programPointsSpec)) programPointsUptoCard

/-- THE SECOND FORM's CARD OF 'klippelaw07.ProgramMinimizes'. -/
def programMinimizesUptoCard : Claim7 := { stood := { row := programMinimizesUptoRow, standIns := [], harness := (true, "6af62280ee1d0ae5f597f12a631978d0ff3bd9cab581cece5c8ec93414c82f97"), looks := true }, kinds := [], alts := [], laidByText := true, laidKinds := [.data, .data, .data, .sentinel, .sentinel], laidTests := true, laidLooks := .later }
def ProgramMinimizesUptoCardSaid : Prop := Claim7.holds Tryz.pinned (.plain (OpenSpec.upto programMinimizesSpec)) programMinimizesUptoCard

/-- THE SECOND FORM's CARD OF 'klippelaw07.ProgramVerifies'. -/
def programVerifiesUptoCard : Claim7 := { stood := { row := programVerifiesUptoRow, standIns := [], harness := (true, "6af62280ee1d0ae5f597f12a631978d0ff3bd9cab581cece5c8ec93414c82f97"), looks := true }, kinds := [], alts := [], laidByText := true, laidKinds := [.data, .data, .data, .sentinel, .sentinel], laidTests := true, laidLooks := .later }
def ProgramVerifiesUptoCardSaid : Prop := Claim7.holds Tryz.pinned (.plain (OpenSpec.upto programVerifiesSpec)) programVerifiesUptoCard
end Rows
end Go.Proofs.YtcenemaadnlknaaGreatDoor
