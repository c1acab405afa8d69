/-
  DERIVED. GIVEN WITH THE SEED: THE CARDS: each row of YtplimbgaoengfaaGreatDoorRows.lean that lists a variable, with what it lists TIED to the program's text (the seventh form; the later family's looks); each row that meets fmt, with fmt's text TOLD by the authors' own Lean function (tested against real Go, not proved from fmt's source: count such statements apart). THE CARD IS WHAT COUNTS. Prove the row's statement (the work); the ties are given (YtplimbgaoengfaaGreatDoorTie.lean); close each card by the builder's one call (the guide's Derived/Test/ToyasCard.lean, 'card_holds'). Laid BY PROGRAM, IN A SANDBOX (cutbox-door.mjs). By AI agents, Wed Nov 11 2026. No macro, syntax, notation, axiom, sorry.
-/
import Derived.Test.YtplimbgaoengfaaGreatDoorRows
import GoSem.ClaimSeven
namespace Go.Proofs.YtplimbgaoengfaaGreatDoor
namespace Rows

/-- THE TIED CARD OF 'klippelaw15.AttitudeCompass'. -/
def attitudeCompassCard : Claim7 := { stood := { row := attitudeCompassRow, standIns := [], harness := (true, "cb6490afbc8725915c2b179af6a044f2648b9479453416241c110369b5ff0bc7"), looks := true }, kinds := [], alts := [], laidByText := true, laidKinds := [.data, .data, .data, .sentinel, .sentinel], laidTests := true, laidLooks := .later }
def AttitudeCompassCardSaid : Prop := Claim7.holds Tryz.pinned (.plain (OpenSpec.ofChange attitudeCompassSpec)) attitudeCompassCard

/-- THE TIED CARD OF 'klippelaw15.AttitudeHeights'. -/
def attitudeHeightsCard : Claim7 := { stood := { row := attitudeHeightsRow, standIns := [], harness := (true, "cb6490afbc8725915c2b179af6a044f2648b9479453416241c110369b5ff0bc7"), looks := true }, kinds := [], alts := [], laidByText := true, laidKinds := [.data, .data, .data, .sentinel, .sentinel], laidTests := true, laidLooks := .later }
def AttitudeHeightsCardSaid : Prop := Claim7.holds Tryz.pinned (.plain (OpenSpec.ofChange attitudeHeightsSpec)) attitudeHeightsCard

/-- THE TIED CARD OF 'klippelaw15.AttitudePlanes'. -/
def attitudePlanesCard : Claim7 := { stood := { row := attitudePlanesRow, standIns := [], harness := (true, "cb6490afbc8725915c2b179af6a044f2648b9479453416241c110369b5ff0bc7"), looks := true }, kinds := [], alts := [], laidByText := true, laidKinds := [.data, .data, .data, .sentinel, .sentinel], laidTests := true, laidLooks := .later }
def AttitudePlanesCardSaid : Prop := Claim7.holds Tryz.pinned (.plain (OpenSpec.ofChange attitudePlanesSpec)) attitudePlanesCard

/-- THE TIED CARD OF 'klippelaw15.AttitudeGradients'. -/
def attitudeGradientsCard : Claim7 := { stood := { row := attitudeGradientsRow, standIns := [], harness := (true, "cb6490afbc8725915c2b179af6a044f2648b9479453416241c110369b5ff0bc7"), looks := true }, kinds := [], alts := [], laidByText := true, laidKinds := [.data, .data, .data, .sentinel, .sentinel], laidTests := true, laidLooks := .later }
def AttitudeGradientsCardSaid : Prop := Claim7.holds Tryz.pinned (.plain (OpenSpec.ofChange attitudeGradientsSpec)) attitudeGradientsCard

/-- THE TIED CARD OF 'klippelaw15.AttitudeFalls'. -/
def attitudeFallsCard : Claim7 := { stood := { row := attitudeFallsRow, standIns := [], harness := (true, "cb6490afbc8725915c2b179af6a044f2648b9479453416241c110369b5ff0bc7"), looks := true }, kinds := [], alts := [], laidByText := true, laidKinds := [.data, .data, .data, .sentinel, .sentinel], laidTests := true, laidLooks := .later }
def AttitudeFallsCardSaid : Prop := Claim7.holds Tryz.pinned (.plain (OpenSpec.ofChange attitudeFallsSpec)) attitudeFallsCard

/-- THE TIED CARD OF 'klippelaw15.AttitudeDirections'. -/
def attitudeDirectionsCard : Claim7 := { stood := { row := attitudeDirectionsRow, standIns := [], harness := (true, "cb6490afbc8725915c2b179af6a044f2648b9479453416241c110369b5ff0bc7"), looks := true }, kinds := [], alts := [], laidByText := true, laidKinds := [.data, .data, .data, .sentinel, .sentinel], laidTests := true, laidLooks := .later }
def AttitudeDirectionsCardSaid : Prop := Claim7.holds Tryz.pinned (.plain (OpenSpec.ofChange attitudeDirectionsSpec)) attitudeDirectionsCard

/-- THE TIED CARD OF 'klippelaw15.AttitudeTurns'. -/
def attitudeTurnsCard : Claim7 := { stood := { row := attitudeTurnsRow, standIns := [], harness := (true, "cb6490afbc8725915c2b179af6a044f2648b9479453416241c110369b5ff0bc7"), looks := true }, kinds := [], alts := [], laidByText := true, laidKinds := [.data, .data, .data, .sentinel, .sentinel], laidTests := true, laidLooks := .later }
def AttitudeTurnsCardSaid : Prop := Claim7.holds Tryz.pinned (.plain (OpenSpec.ofChange attitudeTurnsSpec)) attitudeTurnsCard

/-- THE TIED CARD OF 'klippelaw15.AttitudeOrders'. -/
def attitudeOrdersCard : Claim7 := { stood := { row := attitudeOrdersRow, standIns := [], harness := (true, "cb6490afbc8725915c2b179af6a044f2648b9479453416241c110369b5ff0bc7"), looks := true }, kinds := [], alts := [], laidByText := true, laidKinds := [.data, .data, .data, .sentinel, .sentinel], laidTests := true, laidLooks := .later }
def AttitudeOrdersCardSaid : Prop := Claim7.holds Tryz.pinned (.plain (OpenSpec.ofChange attitudeOrdersSpec)) attitudeOrdersCard

/-- THE SECOND FORM's CARD OF 'klippelaw15.AttitudeCompass'. -/
def attitudeCompassUptoCard : Claim7 := { stood := { row := attitudeCompassUptoRow, standIns := [], harness := (true, "cb6490afbc8725915c2b179af6a044f2648b9479453416241c110369b5ff0bc7"), looks := true }, kinds := [], alts := [], laidByText := true, laidKinds := [.data, .data, .data, .sentinel, .sentinel], laidTests := true, laidLooks := .later }
def AttitudeCompassUptoCardSaid : Prop := Claim7.holds Tryz.pinned (.plain (OpenSpec.upto attitudeCompassSpec)) attitudeCompassUptoCard

/-- THE SECOND FORM's CARD OF 'klippelaw15.AttitudeHeights'. -/
def attitudeHeightsUptoCard : Claim7 := { stood := { row := attitudeHeightsUptoRow, standIns := [], harness := (true, "cb6490afbc8725915c2b179af6a044f2648b9479453416241c110369b5ff0bc7"), looks := true }, kinds := [], alts := [], laidByText := true, laidKinds := [.data, .data, .data, .sentinel, .sentinel], laidTests := true, laidLooks := .later }
def AttitudeHeightsUptoCardSaid : Prop := Claim7.holds Tryz.pinned (.plain (OpenSpec.upto attitudeHeightsSpec)) attitudeHeightsUptoCard

/-- THE SECOND FORM's CARD OF 'klippelaw15.AttitudePlanes'. -/
def attitudePlanesUptoCard : Claim7 := { stood := { row := attitudePlanesUptoRow, standIns := [], harness := (true, "cb6490afbc8725915c2b179af6a044f2648b9479453416241c110369b5ff0bc7"), looks := true }, kinds := [], alts := [], laidByText := true, laidKinds := [.data, .data, .data, .sentinel, .sentinel], laidTests := true, laidLooks := .later }
def AttitudePlanesUptoCardSaid : Prop := Claim7.holds Tryz.pinned (.plain (OpenSpec.upto attitudePlanesSpec)) attitudePlanesUptoCard

/-- THE SECOND FORM's CARD OF 'klippelaw15.AttitudeGradients'. -/
def attitudeGradientsUptoCard : Claim7 := { stood := { row := attitudeGradientsUptoRow, standIns := [], harness := (true, "cb6490afbc8725915c2b179af6a044f2648b9479453416241c110369b5ff0bc7"), looks := true }, kinds := [], alts := [], laidByText := true, laidKinds := [.data, .data, .data, .sentinel, .sentinel], laidTests := true, laidLooks := .later }
def AttitudeGradientsUptoCardSaid : Prop := Claim7.holds Tryz.pinned (.plain (OpenSpec.upto attitudeGradientsSpec)) attitudeGradientsUptoCard

/-- THE SECOND FORM's CARD OF 'klippelaw15.AttitudeFalls'. -/
def attitudeFallsUptoCard : Claim7 := { stood := { row := attitudeFallsUptoRow, standIns := [], harness := (true, "cb6490afbc8725915c2b179af6a044f2648b9479453416241c110369b5ff0bc7"), looks := true }, kinds := [], alts := [], laidByText := true, laidKinds := [.data, .data, .data, .sentinel, .sentinel], laidTests := true, laidLooks := .later }
def AttitudeFallsUptoCardSaid : Prop := Claim7.holds Tryz.pinned (.plain (OpenSpec.upto attitudeFallsSpec)) attitudeFallsUptoCard

/-- THE SECOND FORM's CARD OF 'klippelaw15.AttitudeDirections'. -/
def attitudeDirectionsUptoCard : Claim7 := { stood := { row := attitudeDirectionsUptoRow, standIns := [], harness := (true, "cb6490afbc8725915c2b179af6a044f2648b9479453416241c110369b5ff0bc7"), looks := true }, kinds := [], alts := [], laidByText := true, laidKinds := [.data, .data, .data, .sentinel, .sentinel], laidTests := true, laidLooks := .later }
def AttitudeDirectionsUptoCardSaid : Prop := Claim7.holds Tryz.pinned (.plain (OpenSpec.upto attitudeDirectionsSpec)) attitudeDirectionsUptoCard

/-- THE SECOND FORM's CARD OF 'klippelaw15.AttitudeTurns'. -/
def attitudeTurnsUptoCard : Claim7 := { stood := { row := attitudeTurnsUptoRow, standIns := [], harness := (true, "cb6490afbc8725915c2b179af6a044f2648b9479453416241c110369b5ff0bc7"), looks := true }, kinds := [], alts := [], laidByText := true, laidKinds := [.data, .data, .data, .sentinel, .sentinel], laidTests := true, laidLooks := .later }
def AttitudeTurnsUptoCardSaid : Prop := Claim7.holds Tryz.pinned (.plain (OpenSpec.upto attitudeTurnsSpec)) attitudeTurnsUptoCard

/-- THE SECOND FORM's CARD OF 'klippelaw15.AttitudeOrders'. -/
def attitudeOrdersUptoCard : Claim7 := { stood := { row := attitudeOrdersUptoRow, standIns := [], harness := (true, "cb6490afbc8725915c2b179af6a044f2648b9479453416241c110369b5ff0bc7"), looks := true }, kinds := [], alts := [], laidByText := true, laidKinds := [.data, .data, .data, .sentinel, .sentinel], laidTests := true, laidLooks := .later }
def AttitudeOrdersUptoCardSaid : Prop := Claim7.holds Tryz.pinned (.plain (OpenSpec.upto attitudeOrdersSpec)) attitudeOrdersUptoCard
end Rows
end Go.Proofs.YtplimbgaoengfaaGreatDoor
