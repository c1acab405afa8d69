/- Part 2 of the proof: Int. -/
import Derived.Test.YtcenemaadnlknaaGreatDoorQPB1
set_option maxRecDepth 100000
set_option maxHeartbeats 2000000
namespace Go.Proofs.YtcenemaadnlknaaGreatDoor
open Go
def unsign (l:List UInt8):List UInt8:=match l with
 | 45 :: t=>t
 | l=>l
theorem unsign_zl (n:Int):unsign (zl n)=Lib.decDigits n.natAbs:=by
 by_cases h:n<0
 ·rw [zl_neg h];rfl
 ·rw [zl_pos (by omega)]
  cases hd:Lib.decDigits n.natAbs with
  | nil=>rfl
  | cons b t =>
   have:b≠45:=fun e=>dec_not_minus _ _ (by rw [hd,e])
   unfold unsign;split
   ·simp_all
   ·rfl
end Go.Proofs.YtcenemaadnlknaaGreatDoor
