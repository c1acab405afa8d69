/- Part 39 of the proof: Kit. -/
import Derived.Test.YtglppcmegocphaaGreatDoorQU1
import Derived.Test.YtglppcmegocphaaGreatDoorQU3
import Derived.Test.YtglppcmegocphaaGreatDoorQU28
import Derived.Test.YtglppcmegocphaaGreatDoorQU29
import Derived.Test.YtglppcmegocphaaGreatDoorQU32
import Derived.Test.YtglppcmegocphaaGreatDoorTie
import Derived.Test.YtglppcmegocphaaGreatDoorCards
import Derived.ProofKit
import Derived.LaidMore
import Derived.Stop.Joined
import Derived.Stop.LaidErr
import Derived.Lib.LaidTab
import Derived.SevenTiedAt
namespace Go.Proofs.YtglppcmegocphaaGreatDoor
open Go Go.ChangeShapes Go.WideShapes Go.ChangeAt Go.WideMaps Go.WideElems Go.RowKit
set_option maxRecDepth 100000
theorem str_of {ls : List Lf} {cs : List Value} (h : FitsL (.s :: ls) cs) : ∃ (s : ByteArray) (rest : List Value), s.size ≤ maxLen ∧ cs = .string s :: rest ∧ FitsL ls rest := by
  obtain ⟨_, _, rfl, ⟨s, rfl, hs⟩, h⟩ := h
  exact ⟨s, _, hs, rfl, h⟩
end Go.Proofs.YtglppcmegocphaaGreatDoor
