/- Part 39 of the proof: Lin. -/
import Derived.Test.YtplimbgaoengfaaGreatDoorQB1
import Derived.Test.YtplimbgaoengfaaGreatDoorQB3
import Derived.Test.YtplimbgaoengfaaGreatDoorQB24
import Derived.RegionTactic
import Derived.Lib.Hide
namespace Go.Proofs.YtplimbgaoengfaaGreatDoor
open Go Go.RowKit
section
variable {P : Program} {ops : Array Oper} {Q : Exit → Act → World → Prop} {md : Region.Mode}
variable {X : World} {bs : List Ob} {nb : Nat}
end
section
variable {P : Program} {ops : Array Oper} {Q : Exit → Act → World → Prop} {X : World} {bs : List Ob}
theorem Seen.un {w0 : World} {l : List Kd} {g : Nat → Nat} {i : Nat} {a0 a : Act} {w : World} {d : Nat} (h : Seen X w0 bs ops l g i a0 a w) (j : Nat) (hj : opDep ops j i = true) (hd : opDst ops j = some d) (hk : l[j]? = some .off) : a.tmps[d]?.getD undef = undef := by
  have := h.2.2.1 j hj d hd
  rw [hk] at this
  exact Act.raw this.1
end
end Go.Proofs.YtplimbgaoengfaaGreatDoor
