/- Part 43. -/
import Derived.Test.YtmahadmefplbnaaGreatDoorQFUB
import Derived.Test.YtmahadmefplbnaaGreatDoorQFU32
import Derived.Test.YtmahadmefplbnaaGreatDoorQFU42
import Derived.SliceStrings
import Derived.Deep.Slices
import Derived.Deep.Strs
import Derived.Carry
set_option maxRecDepth 100000
set_option maxHeartbeats 2000000
namespace Go.Proofs.YtmahadmefplbnaaGreatDoor
open Go Go.ChangeShapes Go.WideShapes Go.ChangeAt Go.WideMaps Go.WideElems Go.RowKit Go.Deep
set_option maxRecDepth 100000
theorem gx:laidOutB Tryz.prog=true:=ag
theorem vC {a b:Bool} (ha:a=true) (hb:b=true):(a && b)=true:=by rw [ha,hb];rfl
theorem Rs.cells {w:World} {ao:Option Addr} {m c:Nat} {t:Nat->ByteArray} (h:Rs w (.slice ao m c) m t):∀ i,i<m->∃ a,ao=some a/\w.cell? (a.add i)=some (.string (t i)):=by
 obtain ⟨_,_,e,_,_,hc⟩:=h;cases e;exact hc
theorem addr_add (ab ao n:Nat):(⟨ab,ao,none⟩:Addr).add n=⟨ab,ao+n,none⟩:=by
 unfold Addr.add;split
 ·rename_i h;rw [h,Nat.add_zero]
 ·rfl
theorem pg {w:World} {a:Addr} {v:Value} (h:w.cell? a=some v):a.spot=none:=by
 unfold World.cell? at h;split at h
 ·cases e:a.spot with
  | none=>rfl
  | some x=>rw [e] at h;simp at h
 ·cases h
section
variable {H:Type} {enc:TypeId × Value->H} {W:World} {base:Nat} {sp:Nat->Bool} {held:Bool}
end
end Go.Proofs.YtmahadmefplbnaaGreatDoor
