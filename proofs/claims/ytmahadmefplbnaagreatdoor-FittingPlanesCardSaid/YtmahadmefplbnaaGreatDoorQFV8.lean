/- Part 8. -/
import Derived.Test.YtmahadmefplbnaaGreatDoorQFVA
import Derived.Test.YtmahadmefplbnaaGreatDoorQFV1
import Derived.Lib.ParseIntB
set_option maxRecDepth 100000
set_option maxHeartbeats 2000000
namespace Go.Proofs.YtmahadmefplbnaaGreatDoor
open Go
theorem uH(l:List UInt8)(a:Nat):a<=bC a l:=by
 rw[mu];have:=Nat.mul_le_mul_left a (Nat.pow_pos (n:=l.length) (show 0<10 by decide));omega
theorem uy(l:List UInt8)(h:∀ b ∈ l,cV b=true):∀ (acc:Nat),bC acc l<=18446744073709551615->Lib.parseUintM 18446744073709551615 acc l = .ok (bC acc l):=by
 induction l with
 | nil=>intro acc _;rw[lf];rfl
 | cons x t ih =>
  intro acc hM;have hx:=(cr x).1 (h x (by simp));rw[fB] at hM ⊢;have hle:=uH t (acc*10+(x.toNat-48));unfold Lib.parseUintM;rw[if_pos hx,if_neg ae,if_neg ae];exact ih (fun b hb=>h b (by simp[hb])) _ hM
theorem se(l:List UInt8)(h:∀ b ∈ l,cV b=true)(hne:l≠[])(hv:val l<1000000000):Lib.parseUintB 64 l = .ok (val l):=by
 unfold Lib.parseUintB;rw[if_neg hne];exact uy l h 0 (by have:bC 0 l<1000000000:=hv;omega)
theorem xY {V lo:Nat} {P:List Nat} {r:List UInt8} (h:mv 1000000000 P+1000000000 ^ P.length*val r=V) (hl:lo=r.length-9) :
    mv 1000000000 (P ++ [val (r.drop lo)])+1000000000 ^ (P.length+1)*val (r.take lo)=V:=by
 rw[eN,← h];have e:val r=val (r.take lo)*10 ^ (r.length-lo)+val (r.drop lo):=by
  conv=>lhs;rw[← List.take_append_drop lo r]
  rw[cA,List.length_drop]
 rw[e];by_cases h0:r.length<=9
 ·have:lo=0:=ae;subst this;simp[val,lf]
 ·rw[show r.length-lo=9 by omega,show(10:Nat) ^ 9=1000000000 by decide,Nat.pow_succ];generalize 1000000000 ^ P.length=p;generalize val (r.take lo)=x;generalize val (r.drop lo)=y;rw[Nat.mul_add,Nat.mul_assoc p,Nat.mul_comm x];omega
theorem tn{lo:Nat}{r:List UInt8}(h:∀ b ∈ r,cV b=true)(hl:lo=r.length-9):val (r.drop lo)<1000000000:=by
 have:=tI (r.drop lo) (fun b hb=>h b (List.mem_of_mem_drop hb));rw[List.length_drop] at this;exact Nat.lt_of_lt_of_le this ((Nat.pow_le_pow_right (n:=10) af (show r.length-lo<=9 by omega)))
end Go.Proofs.YtmahadmefplbnaaGreatDoor
