/- Part 41 of the proof: S28. -/
import Derived.Test.YtcenemaadnlknaaGreatDoorQPB28
import Derived.Test.YtcenemaadnlknaaGreatDoorQPB38
set_option maxRecDepth 100000
set_option maxHeartbeats 2000000
set_option linter.unusedSimpArgs false
set_option linter.unusedVariables false
namespace Go.Proofs.YtcenemaadnlknaaGreatDoor
open Go Go.RowKit
theorem p3_neg (b:Rat) (w:World) (g:Gd w) (h:QB 200 b):Calls Tryz.prog 17 #[.string ⟨#[45,49]⟩,.string (qs b)] w (Ret w (.string (qs (-b)))):=by
 have:=p3_times (-1) b w g (QB1.neg.mono (by omega)) h
 rwa [qs_m1,show (-1:Rat)*b=-b by grind] at this
end Go.Proofs.YtcenemaadnlknaaGreatDoor
