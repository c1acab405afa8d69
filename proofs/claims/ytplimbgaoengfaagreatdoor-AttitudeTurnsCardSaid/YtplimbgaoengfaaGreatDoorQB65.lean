/- Part 65 of the proof: Kit2. -/
import Derived.Test.YtplimbgaoengfaaGreatDoorQB1
import Derived.Test.YtplimbgaoengfaaGreatDoorQB3
import Derived.Test.YtplimbgaoengfaaGreatDoorQB35
import Derived.Test.YtplimbgaoengfaaGreatDoorQB36
namespace Go.Proofs.YtplimbgaoengfaaGreatDoor
open Go Go.ChangeShapes Go.WideShapes Go.ChangeAt Go.WideMaps Go.WideElems Go.RowKit
theorem i8_of {ls : List Lf} {cs : List Value} (h : FitsL (.i .i8 :: ls) cs) : ∃ (n : Int) (rest : List Value), (-128 ≤ n ∧ n ≤ 127) ∧ cs = .int .i8 n :: rest ∧ FitsL ls rest := by
  obtain ⟨_, _, rfl, ⟨n, rfl, hn⟩, hr⟩ := h
  exact ⟨n, _, bounds_i8 hn, rfl, hr⟩
end Go.Proofs.YtplimbgaoengfaaGreatDoor
