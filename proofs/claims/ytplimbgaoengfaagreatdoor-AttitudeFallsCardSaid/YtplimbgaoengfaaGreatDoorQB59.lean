/- Part 59 of the proof: N10. -/
import Derived.Test.YtplimbgaoengfaaGreatDoorQB1
import Derived.Test.YtplimbgaoengfaaGreatDoorQB2
import Derived.Test.YtplimbgaoengfaaGreatDoorQB3
import Derived.Test.YtplimbgaoengfaaGreatDoorQB4
import Derived.Test.YtplimbgaoengfaaGreatDoorQB5
import Derived.Test.YtplimbgaoengfaaGreatDoorQB6
import Derived.Test.YtplimbgaoengfaaGreatDoorQB7
import Derived.Test.YtplimbgaoengfaaGreatDoorQB8
import Derived.Test.YtplimbgaoengfaaGreatDoorQB9
import Derived.Test.YtplimbgaoengfaaGreatDoorQB10
import Derived.Test.YtplimbgaoengfaaGreatDoorQB11
import Derived.Test.YtplimbgaoengfaaGreatDoorQB12
import Derived.Test.YtplimbgaoengfaaGreatDoorQB13
import Derived.Test.YtplimbgaoengfaaGreatDoorQB14
import Derived.Test.YtplimbgaoengfaaGreatDoorQB15
import Derived.Test.YtplimbgaoengfaaGreatDoorQB16
import Derived.Test.YtplimbgaoengfaaGreatDoorQB17
import Derived.Test.YtplimbgaoengfaaGreatDoorQB18
import Derived.Test.YtplimbgaoengfaaGreatDoorQB19
import Derived.Test.YtplimbgaoengfaaGreatDoorQB20
import Derived.Test.YtplimbgaoengfaaGreatDoorQB21
import Derived.Test.YtplimbgaoengfaaGreatDoorQB22
import Derived.Test.YtplimbgaoengfaaGreatDoorQB23
import Derived.Test.YtplimbgaoengfaaGreatDoorQB24
import Derived.Test.YtplimbgaoengfaaGreatDoorQB25
import Derived.Test.YtplimbgaoengfaaGreatDoorQB26
import Derived.Test.YtplimbgaoengfaaGreatDoorQB27
import Derived.Test.YtplimbgaoengfaaGreatDoorQB28
import Derived.Test.YtplimbgaoengfaaGreatDoorQB29
import Derived.Test.YtplimbgaoengfaaGreatDoorQB30
import Derived.Test.YtplimbgaoengfaaGreatDoorQB33
import Derived.Test.YtplimbgaoengfaaGreatDoorQB58
namespace Go.Proofs.YtplimbgaoengfaaGreatDoor
open Go Go.RowKit
set_option linter.unusedVariables false
theorem nerr_ex {t : T3} (h : TS t) : ∃ e, NErr t e := by
  cases r : t.l.all rq with
  | false => exact ⟨_, .num h r⟩
  | true =>
    obtain ⟨v, hv, hb⟩ := right_v r
    by_cases hz : v.x = 0 ∧ v.y = 0 ∧ v.z = 0
    · exact ⟨_, .zero v hv hb hz⟩
    · exact ⟨_, .ok v hv hb hz⟩
theorem nerr_ok {t : T3} {e : Int} (h : NErr t e) (h0 : e = 0) : ∃ v : V3, t = ⟨qs v.x, qs v.y, qs v.z⟩ ∧ VB 200 v ∧ ¬ (v.x = 0 ∧ v.y = 0 ∧ v.z = 0) := by
  cases h with
  | num _ _ => omega
  | zero _ _ _ _ => omega
  | ok v ht hv hz => exact ⟨v, ht, hv, hz⟩
theorem lnorm_l {t : T3} {e : Int} (w : World) (g : Gd w) (h : NErr t e) : Calls Tryz.prog 18 #[tv t] w (Ret w (.int .i64 e)) := by
  cases h with
  | num hs h => exact lnorm_e t w g hs h
  | zero v ht hv hz => subst ht; exact lnorm_z v w g hv hz.1 hz.2.1 hz.2.2
  | ok v ht hv hz => subst ht; exact lnorm_ok v w g hv hz
end Go.Proofs.YtplimbgaoengfaaGreatDoor
