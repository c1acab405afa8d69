/- Part 49 of the proof: RP. -/
import Derived.Test.YtjeimihnoiephaaGreatDoorQX1
import Derived.Test.YtjeimihnoiephaaGreatDoorQX3
import Derived.Test.YtjeimihnoiephaaGreatDoorQX29
import Derived.Test.YtjeimihnoiephaaGreatDoorQX30
import Derived.Test.YtjeimihnoiephaaGreatDoorQX48
namespace Go.Proofs.YtjeimihnoiephaaGreatDoor
open Go Go.RowKit
theorem prod4_mul (k m:Int) (a b:Q4):prod4 (mul4 k a) (mul4 m b) = mul4 (k * m) (prod4 a b):=by
  unfold prod4 mul4
  simp only [Q4.mk.injEq]
  refine ⟨?_,?_,?_,?_⟩ <;> grind
theorem prim4_prod {a b:Q4} (ha:¬ a.zero) (hb:¬ b.zero):prim4 (prod4 a b) = prim4 (prod4 (prim4 a) (prim4 b)):=by
  have e:prod4 a b = mul4 ((sg4 a * gcd4 a) * (sg4 b * gcd4 b)) (prod4 (prim4 a) (prim4 b)):=by
    rw [← prod4_mul,← prim4_back ha,← prim4_back hb]
  rw [e,prim4_mul (Int.mul_ne_zero (sgk_ne ha) (sgk_ne hb))]
end Go.Proofs.YtjeimihnoiephaaGreatDoor
