/- Part 52 of the proof: S46. -/
import Derived.Test.YtcenemaadnlknaaGreatDoorQPB39
set_option maxRecDepth 100000
set_option maxHeartbeats 2000000
set_option linter.unusedSimpArgs false
set_option linter.unusedVariables false
namespace Go.Proofs.YtcenemaadnlknaaGreatDoor
open Go Go.RowKit
theorem Mv.down {w X W W':World} {S:Nat->Prop} (m:Mv X W S W') (e:Ext w X):Mv w W S W':=⟨e.trans m.ext,Nat.le_trans e.size m.base,fun k h=>Nat.le_trans e.size (m.low k h),m.size,m.fr⟩
theorem osl_app {X w:World} {t:TypeId} {sz n:Nat} {v:Value} {G H:Nat->Value} (h:Osl X w t sz v (n+1) (app (n*sz) G H)) (e:∀ i,i<sz->H i=G (n*sz+i)):Osl X w t sz v (n+1) G:=h.congr fun i hi=>by
 by_cases e':i<n*sz
 ·rw [app_lt e']
 ·rw [Nat.add_mul,Nat.one_mul] at hi
  rw [app_ge e',e (i-n*sz) (by omega),show n*sz+(i-n*sz)=i by omega]
end Go.Proofs.YtcenemaadnlknaaGreatDoor
