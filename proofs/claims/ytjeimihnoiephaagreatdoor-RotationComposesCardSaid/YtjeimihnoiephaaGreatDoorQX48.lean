/- Part 48 of the proof: RP. -/
import Derived.Test.YtjeimihnoiephaaGreatDoorQX1
import Derived.Test.YtjeimihnoiephaaGreatDoorQX3
import Derived.Test.YtjeimihnoiephaaGreatDoorQX29
namespace Go.Proofs.YtjeimihnoiephaaGreatDoor
open Go Go.RowKit
theorem gcd4_mul (k:Int) (t:Q4):gcd4 (mul4 k t) = k.natAbs * gcd4 t:=by
  unfold gcd4 mul4
  simp only [Int.natAbs_mul,Nat.gcd_mul_left]
theorem sg4_mul {k:Int} (hk:k ≠ 0) (t:Q4):sg4 (mul4 k t) = k.sign * sg4 t:=by
  have e:∀ n:Int,(k * n = 0) = (n = 0):=fun n => by
    apply propext;constructor
    · intro h;exact (Int.mul_eq_zero.1 h).resolve_left hk
    · intro h;rw [h,Int.mul_zero]
  unfold sg4 mul4
  simp only [ne_eq,e,Int.sign_mul]
  split
  · rfl
  · split
    · rfl
    · split <;> rfl
theorem prim4_mul {k:Int} (hk:k ≠ 0) (t:Q4):prim4 (mul4 k t) = prim4 t:=by
  unfold prim4
  rw [sg4_mul hk,gcd4_mul]
  have hn:k.sign * sg4 t * ((k.natAbs * gcd4 t:Nat):Int) = k * (sg4 t * gcd4 t):=by
    rw [Int.natCast_mul]
    have:=Int.sign_mul_natAbs k
    calc k.sign * sg4 t * ((k.natAbs:Int) * (gcd4 t:Int)) = (k.sign * (k.natAbs:Int)) * (sg4 t * gcd4 t):=by grind
      _ = k * (sg4 t * gcd4 t):=by rw [this]
  rw [hn]
  have e:∀ n m:Int,(k * n).tdiv (k * m) = n.tdiv m:=by
    intro n m
    rcases Int.lt_or_gt_of_ne hk with h | h
    · rw [show k * n = -((-k) * n) by grind,show k * m = -((-k) * m) by grind,Int.neg_tdiv,Int.tdiv_neg,Int.neg_neg]
      exact Int.mul_tdiv_mul_of_pos _ _ (by omega)
    · exact Int.mul_tdiv_mul_of_pos _ _ h
  unfold div4 mul4
  simp only [e]
end Go.Proofs.YtjeimihnoiephaaGreatDoor
