/- Part 31 of the proof: RP. -/
import Derived.Test.YtjeimihnoiephaaGreatDoorQX1
import Derived.Test.YtjeimihnoiephaaGreatDoorQX3
import Derived.Test.YtjeimihnoiephaaGreatDoorQX29
import Derived.Test.YtjeimihnoiephaaGreatDoorQX30
namespace Go.Proofs.YtjeimihnoiephaaGreatDoor
open Go Go.RowKit
def conj4 (t:Q4):Q4:=⟨t.w,-t.x,-t.y,-t.z⟩
theorem mul4_zero {k:Int} {t:Q4} (hk:k ≠ 0) (h:¬ t.zero):¬ (mul4 k t).zero:=by
  rintro ⟨h0,h1,h2,h3⟩
  simp only [mul4] at h0 h1 h2 h3
  exact h ⟨(Int.mul_eq_zero.1 h0).resolve_left hk,(Int.mul_eq_zero.1 h1).resolve_left hk,(Int.mul_eq_zero.1 h2).resolve_left hk,(Int.mul_eq_zero.1 h3).resolve_left hk⟩
end Go.Proofs.YtjeimihnoiephaaGreatDoor
