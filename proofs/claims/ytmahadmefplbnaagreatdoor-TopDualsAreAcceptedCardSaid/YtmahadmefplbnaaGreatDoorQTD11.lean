/- Part 11. -/
import Derived.Test.YtmahadmefplbnaaGreatDoorQTDA
import Derived.Test.YtmahadmefplbnaaGreatDoorQTD1
import Derived.Lib.ParseIntB
set_option maxRecDepth 100000
set_option maxHeartbeats 2000000
namespace Go.Proofs.YtmahadmefplbnaaGreatDoor
open Go
theorem sL(l:List UInt8)(a:Nat):a<=aZ a l:=by
 rw[lK];have:=Nat.mul_le_mul_left a (Nat.pow_pos (n:=l.length) (show 0<10 by decide));omega
theorem sE(l:List UInt8)(h:∀ b ∈ l,cC b=true):∀ (acc:Nat),aZ acc l<=18446744073709551615->Lib.parseUintM 18446744073709551615 acc l = .ok (aZ acc l):=by
 induction l with
 | nil=>intro acc _;rw[kD];rfl
 | cons x t ih =>
  intro acc hM;have hx:=(b8 x).1 (h x (by simp));rw[fh] at hM ⊢;have hle:=sL t (acc*10+(x.toNat-48));unfold Lib.parseUintM;rw[if_pos hx,if_neg ae,if_neg ae];exact ih (fun b hb=>h b (by simp[hb])) _ hM
theorem qO(l:List UInt8)(h:∀ b ∈ l,cC b=true)(hne:l≠[])(hv:val l<1000000000):Lib.parseUintB 64 l = .ok (val l):=by
 unfold Lib.parseUintB;rw[if_neg hne];exact sE l h 0 (by have:aZ 0 l<1000000000:=hv;omega)
theorem vE {V lo:Nat} {P:List Nat} {r:List UInt8} (h:mv 1000000000 P+1000000000 ^ P.length*val r=V) (hl:lo=r.length-9) :
    mv 1000000000 (P ++ [val (r.drop lo)])+1000000000 ^ (P.length+1)*val (r.take lo)=V:=by
 rw[eJ,← h];have e:val r=val (r.take lo)*10 ^ (r.length-lo)+val (r.drop lo):=by
  conv=>lhs;rw[← List.take_append_drop lo r]
  rw[bS,List.length_drop]
 rw[e];by_cases h0:r.length<=9
 ·have:lo=0:=ae;subst this;simp[val,kD]
 ·rw[show r.length-lo=9 by omega,show(10:Nat) ^ 9=1000000000 by decide,Nat.pow_succ];generalize 1000000000 ^ P.length=p;generalize val (r.take lo)=x;generalize val (r.drop lo)=y;rw[Nat.mul_add,Nat.mul_assoc p,Nat.mul_comm x];omega
theorem rJ{lo:Nat}{r:List UInt8}(h:∀ b ∈ r,cC b=true)(hl:lo=r.length-9):val (r.drop lo)<1000000000:=by
 have:=oW (r.drop lo) (fun b hb=>h b (List.mem_of_mem_drop hb));rw[List.length_drop] at this;exact Nat.lt_of_lt_of_le this ((Nat.pow_le_pow_right (n:=10) af (show r.length-lo<=9 by omega)))
end Go.Proofs.YtmahadmefplbnaaGreatDoor
