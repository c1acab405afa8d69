/- Part 58 of the proof: N10. -/
import Derived.Test.YtplimbgaoengfaaGreatDoorQB1
import Derived.Test.YtplimbgaoengfaaGreatDoorQB2
import Derived.Test.YtplimbgaoengfaaGreatDoorQB3
import Derived.Test.YtplimbgaoengfaaGreatDoorQB4
import Derived.Test.YtplimbgaoengfaaGreatDoorQB5
import Derived.Test.YtplimbgaoengfaaGreatDoorQB6
import Derived.Test.YtplimbgaoengfaaGreatDoorQB7
import Derived.Test.YtplimbgaoengfaaGreatDoorQB8
import Derived.Test.YtplimbgaoengfaaGreatDoorQB9
import Derived.Test.YtplimbgaoengfaaGreatDoorQB10
import Derived.Test.YtplimbgaoengfaaGreatDoorQB11
import Derived.Test.YtplimbgaoengfaaGreatDoorQB12
import Derived.Test.YtplimbgaoengfaaGreatDoorQB13
import Derived.Test.YtplimbgaoengfaaGreatDoorQB14
import Derived.Test.YtplimbgaoengfaaGreatDoorQB15
import Derived.Test.YtplimbgaoengfaaGreatDoorQB16
import Derived.Test.YtplimbgaoengfaaGreatDoorQB17
import Derived.Test.YtplimbgaoengfaaGreatDoorQB18
import Derived.Test.YtplimbgaoengfaaGreatDoorQB19
import Derived.Test.YtplimbgaoengfaaGreatDoorQB20
import Derived.Test.YtplimbgaoengfaaGreatDoorQB21
import Derived.Test.YtplimbgaoengfaaGreatDoorQB22
import Derived.Test.YtplimbgaoengfaaGreatDoorQB23
import Derived.Test.YtplimbgaoengfaaGreatDoorQB24
import Derived.Test.YtplimbgaoengfaaGreatDoorQB25
import Derived.Test.YtplimbgaoengfaaGreatDoorQB26
import Derived.Test.YtplimbgaoengfaaGreatDoorQB28
import Derived.Test.YtplimbgaoengfaaGreatDoorQB30
namespace Go.Proofs.YtplimbgaoengfaaGreatDoor
open Go Go.RowKit
set_option linter.unusedVariables false
inductive NErr (t : T3) : Int → Prop
  | num (hs : TS t) (h : t.l.all rq = false) : NErr t 2
  | zero (v : V3) (ht : t = ⟨qs v.x, qs v.y, qs v.z⟩) (hv : VB 200 v) (hz : v.x = 0 ∧ v.y = 0 ∧ v.z = 0) : NErr t 17
  | ok (v : V3) (ht : t = ⟨qs v.x, qs v.y, qs v.z⟩) (hv : VB 200 v) (hz : ¬ (v.x = 0 ∧ v.y = 0 ∧ v.z = 0)) : NErr t 0
theorem acheck_l {t : T3} {e : Int} (w : World) (g : Gd w) (h : NErr t e) : Calls Tryz.prog 52 #[tv t] w (Ret w (.int .i64 e)) := by
  cases h with
  | num hs h => exact acheck_e t w g hs (terr_2 h)
  | zero v ht hv hz => subst ht; exact acheck_z v w g hv hz.1 hz.2.1 hz.2.2
  | ok v ht hv hz => subst ht; exact acheck_ok v w g hv hz
end Go.Proofs.YtplimbgaoengfaaGreatDoor
