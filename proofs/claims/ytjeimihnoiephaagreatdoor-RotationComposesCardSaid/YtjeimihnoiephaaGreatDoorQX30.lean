/- Part 30 of the proof: RP. -/
import Derived.Test.YtjeimihnoiephaaGreatDoorQX1
import Derived.Test.YtjeimihnoiephaaGreatDoorQX3
import Derived.Test.YtjeimihnoiephaaGreatDoorQX29
namespace Go.Proofs.YtjeimihnoiephaaGreatDoor
open Go Go.RowKit
def prod4 (a b:Q4):Q4:=⟨a.w * b.w - a.x * b.x - a.y * b.y - a.z * b.z,a.w * b.x + a.x * b.w + a.y * b.z - a.z * b.y,a.w * b.y - a.x * b.z + a.y * b.w + a.z * b.x,a.w * b.z + a.x * b.y - a.y * b.x + a.z * b.w⟩
theorem norm4_prod (a b:Q4):norm4 (prod4 a b) = norm4 a * norm4 b:=by
  unfold norm4 prod4
  simp only
  grind
theorem prod4_nz {a b:Q4} (ha:¬ a.zero) (hb:¬ b.zero):¬ (prod4 a b).zero:=by
  rintro ⟨h0,h1,h2,h3⟩
  have h:=norm4_prod a b
  have hp:=Int.mul_pos (norm4_pos ha) (norm4_pos hb)
  rw [← h] at hp
  unfold norm4 at hp
  rw [h0,h1,h2,h3] at hp
  omega
end Go.Proofs.YtjeimihnoiephaaGreatDoor
