/- Part 53 of the proof: Kit2. -/
import Derived.Test.YtjeimihnoiephaaGreatDoorQX1
import Derived.Test.YtjeimihnoiephaaGreatDoorQX3
import Derived.Test.YtjeimihnoiephaaGreatDoorQX43
import Derived.Test.YtjeimihnoiephaaGreatDoorQX44
namespace Go.Proofs.YtjeimihnoiephaaGreatDoor
open Go Go.ChangeShapes Go.WideShapes Go.ChangeAt Go.WideMaps Go.WideElems Go.RowKit
theorem i64_of {ls:List Lf} {cs:List Value} (h:FitsL (.i .i64 :: ls) cs):∃ (n:Int) (rest:List Value),(-9223372036854775808 ≤ n∧n ≤ 9223372036854775807)∧cs = .int .i64 n :: rest∧FitsL ls rest:=by
  obtain ⟨_,_,rfl,⟨n,rfl,hn⟩,hr⟩:=h
  exact ⟨n,_,bounds_i64 hn,rfl,hr⟩
end Go.Proofs.YtjeimihnoiephaaGreatDoor
