/- Part 61 of the proof: Kit. -/
import Derived.Test.YtjeimihnoiephaaGreatDoorQX1
import Derived.Test.YtjeimihnoiephaaGreatDoorQX3
import Derived.Test.YtjeimihnoiephaaGreatDoorQX43
import Derived.Test.YtjeimihnoiephaaGreatDoorQX44
import Derived.Test.YtjeimihnoiephaaGreatDoorTie
import Derived.Test.YtjeimihnoiephaaGreatDoorCards
import Derived.ProofKit
import Derived.LaidMore
import Derived.Stop.Joined
import Derived.Stop.LaidErr
import Derived.Lib.LaidTab
import Derived.SevenTiedAt
namespace Go.Proofs.YtjeimihnoiephaaGreatDoor
open Go Go.ChangeShapes Go.WideShapes Go.ChangeAt Go.WideMaps Go.WideElems Go.RowKit
set_option maxRecDepth 100000
theorem str_of {ls:List Lf} {cs:List Value} (h:FitsL (.s :: ls) cs):∃ (s:ByteArray) (rest:List Value),s.size ≤ maxLen∧cs = .string s :: rest∧FitsL ls rest:=by
  obtain ⟨_,_,rfl,⟨s,rfl,hs⟩,h⟩:=h
  exact ⟨s,_,hs,rfl,h⟩
end Go.Proofs.YtjeimihnoiephaaGreatDoor
