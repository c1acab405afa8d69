/- Part 8. -/
import Derived.Test.YtmahadmefplbnaaGreatDoorQVLA
import Derived.Test.YtmahadmefplbnaaGreatDoorQVL1
import Derived.Lib.ParseIntB
set_option maxRecDepth 100000
set_option maxHeartbeats 2000000
namespace Go.Proofs.YtmahadmefplbnaaGreatDoor
open Go
theorem Gg(l:List UInt8)(a:Nat):a<=dd a l:=by
 rw[uZ];have:=Nat.mul_le_mul_left a (Nat.pow_pos (n:=l.length) (show 0<10 by decide));omega
theorem F6(l:List UInt8)(h:∀ b ∈ l,fN b=true):∀ (acc:Nat),dd acc l<=18446744073709551615->Lib.parseUintM 18446744073709551615 acc l = .ok (dd acc l):=by
 induction l with
 | nil=>intro acc _;rw[tA];rfl
 | cons x t ih =>
  intro acc hM;have hx:=(eE x).1 (h x (by simp));rw[kk] at hM ⊢;have hle:=Gg t (acc*10+(x.toNat-48));unfold Lib.parseUintM;rw[if_pos hx,if_neg ae,if_neg ae];exact ih (fun b hb=>h b (by simp[hb])) _ hM
theorem Dj(l:List UInt8)(h:∀ b ∈ l,fN b=true)(c8:l≠[])(hv:val l<1000000000):Lib.parseUintB 64 l = .ok (val l):=by
 unfold Lib.parseUintB;rw[if_neg c8];exact F6 l h 0 (by have:dd 0 l<1000000000:=hv;omega)
theorem KF {V lo:Nat} {P:List Nat} {r:List UInt8} (h:mv 1000000000 P+1000000000 ^ P.length*val r=V) (hl:lo=r.length-9) :
    mv 1000000000 (P ++ [val (r.drop lo)])+1000000000 ^ (P.length+1)*val (r.take lo)=V:=by
 rw[jJ,← h];have e:val r=val (r.take lo)*10 ^ (r.length-lo)+val (r.drop lo):=by
  conv=>lhs;rw[← List.take_append_drop lo r]
  rw[eO,List.length_drop]
 rw[e];by_cases h0:r.length<=9
 ·have:lo=0:=ae;subst this;simp[val,tA]
 ·rw[show r.length-lo=9 by omega,show(10:Nat) ^ 9=1000000000 by decide,Nat.pow_succ];generalize 1000000000 ^ P.length=p;generalize val (r.take lo)=x;generalize val (r.drop lo)=y;rw[Nat.mul_add,Nat.mul_assoc p,Nat.mul_comm x];omega
theorem Eo{lo:Nat}{r:List UInt8}(h:∀ b ∈ r,fN b=true)(hl:lo=r.length-9):val (r.drop lo)<1000000000:=by
 have:=Fl (r.drop lo) (fun b hb=>h b (List.mem_of_mem_drop hb));rw[List.length_drop] at this;exact Nat.lt_of_lt_of_le this ((Nat.pow_le_pow_right (n:=10) af (show r.length-lo<=9 by omega)))
