/- Part 27 of the proof: RP. -/
import Derived.Test.YtjeimihnoiephaaGreatDoorQB1
import Derived.Test.YtjeimihnoiephaaGreatDoorQB3
namespace Go.Proofs.YtjeimihnoiephaaGreatDoor
open Go Go.RowKit
def conj4 (t : Q4) : Q4 := ⟨t.w, -t.x, -t.y, -t.z⟩
end Go.Proofs.YtjeimihnoiephaaGreatDoor
