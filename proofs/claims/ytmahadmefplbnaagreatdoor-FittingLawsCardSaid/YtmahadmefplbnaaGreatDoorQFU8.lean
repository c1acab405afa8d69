/- Part 8. -/
import Derived.Test.YtmahadmefplbnaaGreatDoorQFUA
import Derived.Test.YtmahadmefplbnaaGreatDoorQFU1
import Derived.Lib.ParseIntB
set_option maxRecDepth 100000
set_option maxHeartbeats 2000000
namespace Go.Proofs.YtmahadmefplbnaaGreatDoor
open Go
theorem uG (l:List UInt8) (a:Nat):a<=bA a l:=by
 rw [mO];have:=Nat.mul_le_mul_left a (Nat.pow_pos (n:=l.length) (show 0<10 by decide));omega
theorem uy (l:List UInt8) (h:∀ b ∈ l,cX b=true):∀ (acc:Nat),bA acc l<=18446744073709551615->Lib.parseUintM 18446744073709551615 acc l = .ok (bA acc l):=by
 induction l with
 | nil=>intro acc _;rw [lB];rfl
 | cons x t ih =>
  intro acc hM;have hx:=(cv x).1 (h x (by simp));rw [fj] at hM ⊢;have hle:=uG t (acc*10+(x.toNat-48));unfold Lib.parseUintM;rw [if_pos hx,if_neg ae,if_neg ae];exact ih (fun b hb=>h b (by simp [hb])) _ hM
theorem sr (l:List UInt8) (h:∀ b ∈ l,cX b=true) (hne:l≠[]) (hv:val l<1000000000):Lib.parseUintB 64 l = .ok (val l):=by
 unfold Lib.parseUintB;rw [if_neg hne];exact uy l h 0 (by have:bA 0 l<1000000000:=hv;omega)
theorem xW {V lo:Nat} {P:List Nat} {r:List UInt8} (h:mv 1000000000 P+1000000000 ^ P.length*val r=V) (hl:lo=r.length-9) :
    mv 1000000000 (P ++ [val (r.drop lo)])+1000000000 ^ (P.length+1)*val (r.take lo)=V:=by
 rw [eK,← h];have e:val r=val (r.take lo)*10 ^ (r.length-lo)+val (r.drop lo):=by
  conv=>lhs;rw [← List.take_append_drop lo r]
  rw [cB,List.length_drop]
 rw [e];by_cases h0:r.length<=9
 ·have:lo=0:=ae;subst this;simp [val,lB]
 ·rw [show r.length-lo=9 by omega,show (10:Nat) ^ 9=1000000000 by decide,Nat.pow_succ];generalize 1000000000 ^ P.length=p;generalize val (r.take lo)=x;generalize val (r.drop lo)=y;rw [Nat.mul_add,Nat.mul_assoc p,Nat.mul_comm x];omega
theorem tq {lo:Nat} {r:List UInt8} (h:∀ b ∈ r,cX b=true) (hl:lo=r.length-9):val (r.drop lo)<1000000000:=by
 have:=tI (r.drop lo) (fun b hb=>h b (List.mem_of_mem_drop hb));rw [List.length_drop] at this;exact Nat.lt_of_lt_of_le this ((Nat.pow_le_pow_right (n:=10) af (show r.length-lo<=9 by omega)))
end Go.Proofs.YtmahadmefplbnaaGreatDoor
