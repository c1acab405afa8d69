/- Part 48 of the proof: Kit2. -/
import Derived.Test.YtplimbgaoengfaaGreatDoorQB1
import Derived.Test.YtplimbgaoengfaaGreatDoorQB3
import Derived.Test.YtplimbgaoengfaaGreatDoorQB35
import Derived.Test.YtplimbgaoengfaaGreatDoorQB36
import Derived.Test.YtplimbgaoengfaaGreatDoorQB37
namespace Go.Proofs.YtplimbgaoengfaaGreatDoor
open Go Go.ChangeShapes Go.WideShapes Go.ChangeAt Go.WideMaps Go.WideElems Go.RowKit
theorem i64_of {ls : List Lf} {cs : List Value} (h : FitsL (.i .i64 :: ls) cs) : ∃ (n : Int) (rest : List Value), (-9223372036854775808 ≤ n ∧ n ≤ 9223372036854775807) ∧ cs = .int .i64 n :: rest ∧ FitsL ls rest := by
  obtain ⟨_, _, rfl, ⟨n, rfl, hn⟩, hr⟩ := h
  exact ⟨n, _, bounds_i64 hn, rfl, hr⟩
end Go.Proofs.YtplimbgaoengfaaGreatDoor
