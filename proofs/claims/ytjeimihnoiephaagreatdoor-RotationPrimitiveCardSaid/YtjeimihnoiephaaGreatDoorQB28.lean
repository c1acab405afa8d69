/- Part 28 of the proof: Geo, RQ. -/
import Derived.Test.YtjeimihnoiephaaGreatDoorQB1
import Derived.Test.YtjeimihnoiephaaGreatDoorQB2
import Derived.Test.YtjeimihnoiephaaGreatDoorQB3
import Derived.Test.YtjeimihnoiephaaGreatDoorQB4
import Derived.Test.YtjeimihnoiephaaGreatDoorQB5
import Derived.Test.YtjeimihnoiephaaGreatDoorQB6
import Derived.Test.YtjeimihnoiephaaGreatDoorQB7
import Derived.Test.YtjeimihnoiephaaGreatDoorQB8
import Derived.Test.YtjeimihnoiephaaGreatDoorQB9
import Derived.Test.YtjeimihnoiephaaGreatDoorQB10
import Derived.Test.YtjeimihnoiephaaGreatDoorQB11
import Derived.Test.YtjeimihnoiephaaGreatDoorQB12
import Derived.Test.YtjeimihnoiephaaGreatDoorQB13
import Derived.Test.YtjeimihnoiephaaGreatDoorQB14
import Derived.Test.YtjeimihnoiephaaGreatDoorQB15
import Derived.Test.YtjeimihnoiephaaGreatDoorQB16
import Derived.Test.YtjeimihnoiephaaGreatDoorQB17
import Derived.Test.YtjeimihnoiephaaGreatDoorQB18
import Derived.Test.YtjeimihnoiephaaGreatDoorQB19
import Derived.Test.YtjeimihnoiephaaGreatDoorQB20
import Derived.Test.YtjeimihnoiephaaGreatDoorQB21
import Derived.Test.YtjeimihnoiephaaGreatDoorQB22
import Derived.Test.YtjeimihnoiephaaGreatDoorQB23
import Derived.Test.YtjeimihnoiephaaGreatDoorQB24
import Derived.Test.YtjeimihnoiephaaGreatDoorQB25
import Derived.Test.YtjeimihnoiephaaGreatDoorQB27
namespace Go.Proofs.YtjeimihnoiephaaGreatDoor
open Go Go.RowKit
theorem PD.pb {n d k : Nat} {v : P2} (h : PD n d v) (h1 : n ≤ k) (h2 : d ≤ k) : PB k v := ⟨h.x.qb h1 h2, h.y.qb h1 h2⟩
end Go.Proofs.YtjeimihnoiephaaGreatDoor

namespace Go.Proofs.YtjeimihnoiephaaGreatDoor
open Go Go.RowKit
-- the same for quaternions of ints
theorem conj4_nz {t : Q4} (h : ¬ t.zero) : ¬ (conj4 t).zero := by
  rintro ⟨h0, h1, h2, h3⟩
  simp only [conj4] at h0 h1 h2 h3
  exact h ⟨h0, by omega, by omega, by omega⟩
end Go.Proofs.YtjeimihnoiephaaGreatDoor
