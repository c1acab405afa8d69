/- Part 24. -/
import Derived.Test.YtmahadmefplbnaaGreatDoorQTDB
import Derived.Test.YtmahadmefplbnaaGreatDoorQTD23
import Derived.Deep.RegionLaw
set_option maxRecDepth 100000
set_option maxHeartbeats 2000000
namespace Go.Proofs.YtmahadmefplbnaaGreatDoor
open Go Go.RowKit
theorem mD{B:Nat}:∀ {xs:List Nat} {j d:Nat},j<xs.length->mv B (xs.set j (xs[j]?.getD 0+d))=mv B xs+B ^ j*d
 | x :: t,0,d,_=>by simp[mv];omega
 | x :: t,j+1,d,h=>by
  have ih:=mD (B:=B) (xs:=t) (j:=j) (d:=d) (by simpa using h);simp only[List.set_cons_succ,mv,List.getElem?_cons_succ,ih];rw[Nat.mul_add,Nat.pow_succ,Nat.add_assoc,Nat.mul_comm (B ^ j) B,Nat.mul_assoc]
def je(w wr:World)(n:Nat)(xs:List Nat):Prop :=
 xs.length=n/\wr.ownsRow w.heap.size 3 1 (.slice (some ⟨w.heap.size,0,none⟩) n n) n (xs.map fun(x:Nat)=>Value.int .i64 x)/\Ext w wr
theorem je.cell{w wr:World}{n:Nat}{xs:List Nat}(h:je w wr n xs)(i:Nat)(hi:i<n):wr.cell? ⟨w.heap.size,i,none⟩=some (.int .i64 ((xs[i]?.getD 0:Nat):Int)):=by
 have:=h.2.1.cellAt i ae;rw[this];simp[show i<xs.length by rw[h.1];exact hi]
theorem je.free{w wr:World}{n:Nat}{xs:List Nat}(h:je w wr n xs)(i:Nat):wr.frozen? ⟨w.heap.size,i,none⟩=false:=h.2.1.frozenAt i
theorem je.set{w wr:World}{n:Nat}{xs:List Nat}(h:je w wr n xs)(i x:Nat):je w (wr.setCell ⟨w.heap.size,i,none⟩ (.int .i64 (x:Int))) n (xs.set i x):=by
 have:=h.2.1.stored i (.int .i64 (x:Int));refine⟨by rw[List.length_set];exact h.1,?_,h.2.2.setCell (Nat.le_refl _) _⟩;rw[List.map_set];exact this.1
theorem je.drew{w wr:World}{n:Nat}{xs:List Nat}(h:je w wr n xs):je w wr.drew n xs:=⟨h.1,h.2.1.drew,h.2.2.drew⟩
theorem je.holds{w wr:World}{n:Nat}{xs:List Nat}(h:je w wr n xs):gv wr (.slice (some ⟨w.heap.size,0,none⟩) n n) (xs.map Int.ofNat):=by
 have:=h.2.1;refine gv.bX (base:=w.heap.size) (e:=3) (n:=n) ?_;rw[List.map_map];exact this
structure kA(P Q:List Nat)(i k:Nat)(xs:List Nat):Prop where
 val:mv 10000 xs=mv 10000 (P.take i)*mv 10000 Q+10000 ^ i*(P[i]?.getD 0*mv 10000 (Q.take k))
 all:∀ y ∈ xs,y<=(i+1)*100000000
 rest:∀ j,i+k<=j->xs[j]?.getD 0<=i*100000000
theorem kA.step {P Q:List Nat} {i k x y:Nat} {xs:List Nat} (h:kA P Q i k xs) (hk:k<Q.length) (hl:i+k<xs.length) (hx:x=P[i]?.getD 0) (hy:y=Q[k]?.getD 0) (hx1:x<10000) (hy1:y<10000) :
    kA P Q i (k+1) (xs.set (i+k) (xs[i+k]?.getD 0+x*y)):=by
 have hxy:x*y<=100000000:=by
  have:=Nat.mul_le_mul (show x<=10000 by omega) (show y<=10000 by omega);omega
 have hr:=h.rest (i+k) (Nat.le_refl _);refine⟨?_,?_,?_⟩
 ·rw[mD hl,h.val,dP 10000 Q k hk,Nat.mul_add (P[i]?.getD 0),Nat.mul_add (10000 ^ i),← Nat.add_assoc,Nat.pow_add]
  congr 1
  rw[← hx,show Q[k]=y by rw[hy];simp[hk]];rw[Nat.mul_assoc,Nat.mul_left_comm x]
 ·intro z hz;rcases List.mem_or_eq_of_mem_set hz with hz|hz
  ·exact h.all z hz
  ·rw[hz];omega
 ·intro j hj;rw[List.getElem?_set_ne ae];exact h.rest j ae
theorem kA.next{P Q:List Nat}{i:Nat}{xs:List Nat}(h:kA P Q i Q.length xs)(hi:i<P.length):kA P Q (i+1) 0 xs:=by
 have hall:∀ y ∈ xs,y<=(i+1)*100000000:=h.all;refine⟨?_,fun y hy=>Nat.le_trans (hall y hy) (Nat.mul_le_mul_right _ (Nat.le_succ _)),fun j _=>?_⟩
 ·have e1:P[i]?.getD 0=P[i]:=by simp[hi]
  have hv:=h.val;rw[List.take_length,e1] at hv;rw[hv,dP 10000 P i hi,Nat.add_mul,List.take_zero,Nat.mul_assoc];show _=_+10000 ^ (i+1)*(_*0);rw[Nat.mul_zero,Nat.mul_zero,Nat.add_zero]
 ·by_cases hj:j<xs.length
  ·have:=hall xs[j] (List.getElem_mem _);rw[List.getElem?_eq_getElem hj];exact this
  ·rw[List.getElem?_eq_none (Nat.le_of_not_lt hj)];exact Nat.zero_le _
theorem sK(n:Nat):(madeCells (Value.int .i64 0).cells (n*1)).toList=(List.replicate n 0).map fun(x:Nat)=>Value.int .i64 x:=eA .i64 n
end Go.Proofs.YtmahadmefplbnaaGreatDoor
