/- Part 52 of the proof: Sgn. -/
import Derived.Test.YtplimbgaoengfaaGreatDoorQB1
import Derived.Test.YtplimbgaoengfaaGreatDoorQB2
import Derived.Test.YtplimbgaoengfaaGreatDoorQB3
import Derived.Test.YtplimbgaoengfaaGreatDoorQB4
import Derived.Test.YtplimbgaoengfaaGreatDoorQB5
import Derived.Test.YtplimbgaoengfaaGreatDoorQB6
import Derived.Test.YtplimbgaoengfaaGreatDoorQB7
import Derived.Test.YtplimbgaoengfaaGreatDoorQB8
import Derived.Test.YtplimbgaoengfaaGreatDoorQB9
import Derived.Test.YtplimbgaoengfaaGreatDoorQB10
import Derived.Test.YtplimbgaoengfaaGreatDoorQB11
import Derived.Test.YtplimbgaoengfaaGreatDoorQB12
import Derived.Test.YtplimbgaoengfaaGreatDoorQB13
import Derived.Test.YtplimbgaoengfaaGreatDoorQB14
import Derived.Test.YtplimbgaoengfaaGreatDoorQB15
import Derived.Test.YtplimbgaoengfaaGreatDoorQB16
import Derived.Test.YtplimbgaoengfaaGreatDoorQB17
import Derived.Test.YtplimbgaoengfaaGreatDoorQB18
import Derived.Test.YtplimbgaoengfaaGreatDoorQB19
import Derived.Test.YtplimbgaoengfaaGreatDoorQB20
import Derived.Test.YtplimbgaoengfaaGreatDoorQB21
import Derived.Test.YtplimbgaoengfaaGreatDoorQB22
import Derived.Test.YtplimbgaoengfaaGreatDoorQB23
import Derived.Test.YtplimbgaoengfaaGreatDoorQB24
import Derived.Test.YtplimbgaoengfaaGreatDoorQB25
import Derived.Test.YtplimbgaoengfaaGreatDoorQB26
import Derived.Test.YtplimbgaoengfaaGreatDoorQB27
import Derived.Test.YtplimbgaoengfaaGreatDoorQB28
import Derived.Test.YtplimbgaoengfaaGreatDoorQB29
import Derived.Test.YtplimbgaoengfaaGreatDoorQB31
import Derived.Test.YtplimbgaoengfaaGreatDoorQB44
import Derived.Test.YtplimbgaoengfaaGreatDoorQB50
import Derived.Test.YtplimbgaoengfaaGreatDoorQB51
namespace Go.Proofs.YtplimbgaoengfaaGreatDoor
open Go Go.RowKit
theorem sgn_neg {q : Rat} {c d : Int} (h : q.num.sign = c) (e : -c = d) : (-q).num.sign = d := by rw [Rat.neg_num, Int.sign_neg, h, e]
theorem ne_of_sgn {q : Rat} (h : q.num.sign = 1) : q ≠ 0 := by rintro rfl; exact absurd h (by decide)
theorem sgn_pos {q : Rat} (h : q.num.sign = 1) : 0 < q := rnum_pos.1 (Int.sign_eq_one_iff_pos.1 h)
theorem sgn3 (q : Rat) : q.num.sign = -1 ∨ q.num.sign = 0 ∨ q.num.sign = 1 := by
  rcases Int.sign_trichotomy q.num with h | h | h
  · exact Or.inr (Or.inr h)
  · exact Or.inr (Or.inl h)
  · exact Or.inl h
theorem sgn0 {q : Rat} (h : q.num.sign = 0) : q = 0 := by
  have h0 := Int.sign_eq_zero_iff_zero.1 h
  have h1 := @Rat.num_nonneg q; have h2 := @rnum_pos q
  rcases Rat.le_total (a := q) (b := 0) with h | h
  · exact Rat.le_antisymm h (h1.1 (by omega))
  · exact Rat.le_antisymm (Rat.not_lt.1 (fun e => by have := h2.2 e; omega)) h
end Go.Proofs.YtplimbgaoengfaaGreatDoor
