/- Part 49 of the proof: S22. -/
import Derived.Test.YtcenemaadnlknaaGreatDoorQPB40
set_option maxRecDepth 100000
set_option maxHeartbeats 2000000
set_option linter.unusedSimpArgs false
set_option linter.unusedVariables false
namespace Go.Proofs.YtcenemaadnlknaaGreatDoor
open Go Go.RowKit
section
variable {X w w':World} {is:Nat->Bool} {k:Nat} {v:Value}
end
theorem psupport_c {w:World} {v:Value} {m:Nat} {t:Nat->ByteArray} (h:Rs w v m t) (hm:m<=1000):Calls Tryz.prog 23 #[.agg #[v]] w (FLP w (ntz t) m):=by
 obtain ⟨ao,cap,rfl,_,_,hc⟩:=h
 exact psupport_go ao cap m t w hc hm
end Go.Proofs.YtcenemaadnlknaaGreatDoor
