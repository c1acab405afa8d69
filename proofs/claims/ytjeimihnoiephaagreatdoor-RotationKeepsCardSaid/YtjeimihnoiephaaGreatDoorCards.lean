/-
  DERIVED. GIVEN WITH THE SEED: THE CARDS: each row of YtjeimihnoiephaaGreatDoorRows.lean that lists a variable, with what it lists TIED to the program's text (the seventh form; the later family's looks); each row that meets fmt, with fmt's text TOLD by the authors' own Lean function (tested against real Go, not proved from fmt's source: count such statements apart). THE CARD IS WHAT COUNTS. Prove the row's statement (the work); the ties are given (YtjeimihnoiephaaGreatDoorTie.lean); close each card by the builder's one call (the guide's Derived/Test/ToyasCard.lean, 'card_holds'). Laid BY PROGRAM, IN A SANDBOX (cutbox-door.mjs). By AI agents, Wed Nov 11 2026. No macro, syntax, notation, axiom, sorry.
-/
import Derived.Test.YtjeimihnoiephaaGreatDoorRows
import GoSem.ClaimSeven
namespace Go.Proofs.YtjeimihnoiephaaGreatDoor
namespace Rows

/-- THE TIED CARD OF 'klippelaw17.RotationOrders'. -/
def rotationOrdersCard : Claim7 := { stood := { row := rotationOrdersRow, standIns := [], harness := (true, "851f5b60b6cb086e360caadd6a6413e135620bba3c0776653671a1c072079f0c"), looks := true }, kinds := [], alts := [], laidByText := true, laidKinds := [.data, .data, .data, .sentinel, .sentinel], laidTests := true, laidLooks := .later }
def RotationOrdersCardSaid : Prop := Claim7.holds Tryz.pinned (.plain (OpenSpec.ofChange rotationOrdersSpec)) rotationOrdersCard

/-- THE TIED CARD OF 'klippelaw17.RotationArounds'. -/
def rotationAroundsCard : Claim7 := { stood := { row := rotationAroundsRow, standIns := [], harness := (true, "851f5b60b6cb086e360caadd6a6413e135620bba3c0776653671a1c072079f0c"), looks := true }, kinds := [], alts := [], laidByText := true, laidKinds := [.data, .data, .data, .sentinel, .sentinel], laidTests := true, laidLooks := .later }
def RotationAroundsCardSaid : Prop := Claim7.holds Tryz.pinned (.plain (OpenSpec.ofChange rotationAroundsSpec)) rotationAroundsCard

/-- THE TIED CARD OF 'klippelaw17.RotationPrimitive'. -/
def rotationPrimitiveCard : Claim7 := { stood := { row := rotationPrimitiveRow, standIns := [], harness := (true, "851f5b60b6cb086e360caadd6a6413e135620bba3c0776653671a1c072079f0c"), looks := true }, kinds := [], alts := [], laidByText := true, laidKinds := [.data, .data, .data, .sentinel, .sentinel], laidTests := true, laidLooks := .later }
def RotationPrimitiveCardSaid : Prop := Claim7.holds Tryz.pinned (.plain (OpenSpec.ofChange rotationPrimitiveSpec)) rotationPrimitiveCard

/-- THE TIED CARD OF 'klippelaw17.RotationComposes'. -/
def rotationComposesCard : Claim7 := { stood := { row := rotationComposesRow, standIns := [], harness := (true, "851f5b60b6cb086e360caadd6a6413e135620bba3c0776653671a1c072079f0c"), looks := true }, kinds := [], alts := [], laidByText := true, laidKinds := [.data, .data, .data, .sentinel, .sentinel], laidTests := true, laidLooks := .later }
def RotationComposesCardSaid : Prop := Claim7.holds Tryz.pinned (.plain (OpenSpec.ofChange rotationComposesSpec)) rotationComposesCard

/-- THE TIED CARD OF 'klippelaw17.RotationMatrices'. -/
def rotationMatricesCard : Claim7 := { stood := { row := rotationMatricesRow, standIns := [], harness := (true, "851f5b60b6cb086e360caadd6a6413e135620bba3c0776653671a1c072079f0c"), looks := true }, kinds := [], alts := [], laidByText := true, laidKinds := [.data, .data, .data, .sentinel, .sentinel], laidTests := true, laidLooks := .later }
def RotationMatricesCardSaid : Prop := Claim7.holds Tryz.pinned (.plain (OpenSpec.ofChange rotationMatricesSpec)) rotationMatricesCard

/-- THE TIED CARD OF 'klippelaw17.RotationLaws'. -/
def rotationLawsCard : Claim7 := { stood := { row := rotationLawsRow, standIns := [], harness := (true, "851f5b60b6cb086e360caadd6a6413e135620bba3c0776653671a1c072079f0c"), looks := true }, kinds := [], alts := [], laidByText := true, laidKinds := [.data, .data, .data, .sentinel, .sentinel], laidTests := true, laidLooks := .later }
def RotationLawsCardSaid : Prop := Claim7.holds Tryz.pinned (.plain (OpenSpec.ofChange rotationLawsSpec)) rotationLawsCard

/-- THE TIED CARD OF 'klippelaw17.RotationKeeps'. -/
def rotationKeepsCard : Claim7 := { stood := { row := rotationKeepsRow, standIns := [], harness := (true, "851f5b60b6cb086e360caadd6a6413e135620bba3c0776653671a1c072079f0c"), looks := true }, kinds := [], alts := [], laidByText := true, laidKinds := [.data, .data, .data, .sentinel, .sentinel], laidTests := true, laidLooks := .later }
def RotationKeepsCardSaid : Prop := Claim7.holds Tryz.pinned (.plain (OpenSpec.ofChange rotationKeepsSpec)) rotationKeepsCard

/-- THE TIED CARD OF 'klippelaw17.RotationChecks'. -/
def rotationChecksCard : Claim7 := { stood := { row := rotationChecksRow, standIns := [], harness := (true, "851f5b60b6cb086e360caadd6a6413e135620bba3c0776653671a1c072079f0c"), looks := true }, kinds := [], alts := [], laidByText := true, laidKinds := [.data, .data, .data, .sentinel, .sentinel], laidTests := true, laidLooks := .later }
def RotationChecksCardSaid : Prop := Claim7.holds Tryz.pinned (.plain (OpenSpec.ofChange rotationChecksSpec)) rotationChecksCard

/-- THE SECOND FORM's CARD OF 'klippelaw17.RotationOrders'. -/
def rotationOrdersUptoCard : Claim7 := { stood := { row := rotationOrdersUptoRow, standIns := [], harness := (true, "851f5b60b6cb086e360caadd6a6413e135620bba3c0776653671a1c072079f0c"), looks := true }, kinds := [], alts := [], laidByText := true, laidKinds := [.data, .data, .data, .sentinel, .sentinel], laidTests := true, laidLooks := .later }
def RotationOrdersUptoCardSaid : Prop := Claim7.holds Tryz.pinned (.plain (OpenSpec.upto rotationOrdersSpec)) rotationOrdersUptoCard

/-- THE SECOND FORM's CARD OF 'klippelaw17.RotationArounds'. -/
def rotationAroundsUptoCard : Claim7 := { stood := { row := rotationAroundsUptoRow, standIns := [], harness := (true, "851f5b60b6cb086e360caadd6a6413e135620bba3c0776653671a1c072079f0c"), looks := true }, kinds := [], alts := [], laidByText := true, laidKinds := [.data, .data, .data, .sentinel, .sentinel], laidTests := true, laidLooks := .later }
def RotationAroundsUptoCardSaid : Prop := Claim7.holds Tryz.pinned (.plain (OpenSpec.upto rotationAroundsSpec)) rotationAroundsUptoCard

/-- THE SECOND FORM's CARD OF 'klippelaw17.RotationPrimitive'. -/
def rotationPrimitiveUptoCard : Claim7 := { stood := { row := rotationPrimitiveUptoRow, standIns := [], harness := (true, "851f5b60b6cb086e360caadd6a6413e135620bba3c0776653671a1c072079f0c"), looks := true }, kinds := [], alts := [], laidByText := true, laidKinds := [.data, .data, .data, .sentinel, .sentinel], laidTests := true, laidLooks := .later }
def RotationPrimitiveUptoCardSaid : Prop := Claim7.holds Tryz.pinned (.plain (OpenSpec.upto rotationPrimitiveSpec)) rotationPrimitiveUptoCard

/-- THE SECOND FORM's CARD OF 'klippelaw17.RotationComposes'. -/
def rotationComposesUptoCard : Claim7 := { stood := { row := rotationComposesUptoRow, standIns := [], harness := (true, "851f5b60b6cb086e360caadd6a6413e135620bba3c0776653671a1c072079f0c"), looks := true }, kinds := [], alts := [], laidByText := true, laidKinds := [.data, .data, .data, .sentinel, .sentinel], laidTests := true, laidLooks := .later }
def RotationComposesUptoCardSaid : Prop := Claim7.holds Tryz.pinned (.plain (OpenSpec.upto rotationComposesSpec)) rotationComposesUptoCard

/-- THE SECOND FORM's CARD OF 'klippelaw17.RotationMatrices'. -/
def rotationMatricesUptoCard : Claim7 := { stood := { row := rotationMatricesUptoRow, standIns := [], harness := (true, "851f5b60b6cb086e360caadd6a6413e135620bba3c0776653671a1c072079f0c"), looks := true }, kinds := [], alts := [], laidByText := true, laidKinds := [.data, .data, .data, .sentinel, .sentinel], laidTests := true, laidLooks := .later }
def RotationMatricesUptoCardSaid : Prop := Claim7.holds Tryz.pinned (.plain (OpenSpec.upto rotationMatricesSpec)) rotationMatricesUptoCard

/-- THE SECOND FORM's CARD OF 'klippelaw17.RotationLaws'. -/
def rotationLawsUptoCard : Claim7 := { stood := { row := rotationLawsUptoRow, standIns := [], harness := (true, "851f5b60b6cb086e360caadd6a6413e135620bba3c0776653671a1c072079f0c"), looks := true }, kinds := [], alts := [], laidByText := true, laidKinds := [.data, .data, .data, .sentinel, .sentinel], laidTests := true, laidLooks := .later }
def RotationLawsUptoCardSaid : Prop := Claim7.holds Tryz.pinned (.plain (OpenSpec.upto rotationLawsSpec)) rotationLawsUptoCard

/-- THE SECOND FORM's CARD OF 'klippelaw17.RotationKeeps'. -/
def rotationKeepsUptoCard : Claim7 := { stood := { row := rotationKeepsUptoRow, standIns := [], harness := (true, "851f5b60b6cb086e360caadd6a6413e135620bba3c0776653671a1c072079f0c"), looks := true }, kinds := [], alts := [], laidByText := true, laidKinds := [.data, .data, .data, .sentinel, .sentinel], laidTests := true, laidLooks := .later }
def RotationKeepsUptoCardSaid : Prop := Claim7.holds Tryz.pinned (.plain (OpenSpec.upto rotationKeepsSpec)) rotationKeepsUptoCard

/-- THE SECOND FORM's CARD OF 'klippelaw17.RotationChecks'. -/
def rotationChecksUptoCard : Claim7 := { stood := { row := rotationChecksUptoRow, standIns := [], harness := (true, "851f5b60b6cb086e360caadd6a6413e135620bba3c0776653671a1c072079f0c"), looks := true }, kinds := [], alts := [], laidByText := true, laidKinds := [.data, .data, .data, .sentinel, .sentinel], laidTests := true, laidLooks := .later }
def RotationChecksUptoCardSaid : Prop := Claim7.holds Tryz.pinned (.plain (OpenSpec.upto rotationChecksSpec)) rotationChecksUptoCard
end Rows
end Go.Proofs.YtjeimihnoiephaaGreatDoor
