/- Part 40. -/
import Derived.Test.YtmahadmefplbnaaGreatDoorQRV23
set_option maxRecDepth 100000
set_option maxHeartbeats 2000000
namespace Go.Proofs.YtmahadmefplbnaaGreatDoor
open Go Go.RowKit
abbrev tv (t:T3):Value:=.agg #[.string t.x,.string t.y,.string t.z]
end Go.Proofs.YtmahadmefplbnaaGreatDoor
