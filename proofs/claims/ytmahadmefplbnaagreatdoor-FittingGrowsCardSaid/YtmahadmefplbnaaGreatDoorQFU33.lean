/- Part 33. -/
import Derived.Test.YtmahadmefplbnaaGreatDoorQFUB
import Derived.Test.YtmahadmefplbnaaGreatDoorQFU32
set_option maxRecDepth 100000
set_option maxHeartbeats 2000000
set_option linter.unusedSimpArgs false
set_option linter.unusedVariables false
namespace Go.Proofs.YtmahadmefplbnaaGreatDoor
open Go Go.RowKit
section
variable {k:Nat} {p:Nat->V3} {x y d:Nat->Rat} {v v':Rat}
theorem oi (h:(bO k p).fp x) (i:Nat) (hi:i<k):ic p x i<=x 3/\-ic p x i<=x 3:=by
 have a:aF 4 _<=_:=h (2*i) (show 2*i<2*k by omega);have b:aF 4 _<=_:=h (2*i+1) (show 2*i+1<2*k by omega);rw [oh,q6] at a;rw [qZ,q5] at b;unfold ic;grind
def qH (a:Rat):Rat:=if a<0 then -a else a
def Af (f:Nat->Rat):Nat->Rat
 | 0=>0
 | k+1=>ke (Af f k) (qH (f k))
theorem Cc {a c:Rat} (h1:a<=c) (h2:-a<=c):qH a<=c:=by unfold qH;split <;> assumption
theorem Cz (a:Rat):a<=qH a/\-a<=qH a/\0<=qH a:=by unfold qH;split <;> grind
theorem we (a b:Rat):a<=ke a b/\b<=ke a b:=by unfold ke;split <;> grind
theorem B9 {a b c:Rat} (h1:a<=c) (h2:b<=c):ke a b<=c:=by unfold ke;split <;> assumption
theorem wA {f:Nat->Rat} {c:Rat} (h0:0<=c):∀ k,(∀ i,i<k->qH (f i)<=c)->Af f k<=c
 | 0,_=>h0
 | k+1,h=>B9 (wA h0 k fun i hi=>h i ae) (h k ae)
theorem wE {f:Nat->Rat}:∀ k i,i<k->qH (f i)<=Af f k
 | k+1,i,hi=>by
  by_cases e:i=k
  ·subst e;exact (we _ _).2
  ·exact Rat.le_trans (wE k i ae) (we _ _).1
theorem Gw (hk:0<k) (h:dQ (bO k p) v x y):Af (ic p x) k=v:=by
 have e:x 3=v:=by rw [← h.worth,fU]
 have f:=oi h.fp;have z:0<=v:=by have:=f 0 hk;rw [e] at this;grind
 refine Rat.le_antisymm (wA z k fun i hi=>by have:=f i hi;rw [e] at this;exact Cc this.1 this.2) ?_;have:=h.least (l4 (x 0) (x 1) (x 2) (Af (ic p x) k)) (iI fun i hi=>by
  have a:=wE (f:=ic p x) k i hi;have b:=Cz (ic p x i);simp only [ic,nW,nV,nU,lf] at a b ⊢;grind)
 rw [fU] at this;exact this
theorem AL (hk:0<k) (h:dQ (bO k p) v x y):0<=v:=by
 have e:x 3=v:=by rw [← h.worth,fU]
 have:=oi h.fp 0 hk;rw [e] at this;grind
theorem yp {x' y':Nat->Rat} {k':Nat} (hk:k'<=k) (h:dQ (bO k p) v x y) (h':dQ (bO k' p) v' x' y'):v'<=v:=by
 have:=h'.least x (iI fun i hi=>oi h.fp i ae);have e:x 3=v:=by rw [← h.worth,fU]
 rwa [fU,e] at this
theorem ym (h:dQ (bO 3 p) v x y) (ha:((p 1).x-(p 0).x)*((p 2).y-(p 0).y)-((p 1).y-(p 0).y)*((p 2).x-(p 0).x)≠0):v=0:=by
 refine Rat.le_antisymm ?_ (AL af h);generalize hD:((p 1).x-(p 0).x)*((p 2).y-(p 0).y)-((p 1).y-(p 0).y)*((p 2).x-(p 0).x)=D at ha;generalize hs:(((p 1).z-(p 0).z)*((p 2).y-(p 0).y)-((p 1).y-(p 0).y)*((p 2).z-(p 0).z)) / D=s;generalize ht:(((p 1).x-(p 0).x)*((p 2).z-(p 0).z)-((p 1).z-(p 0).z)*((p 2).x-(p 0).x)) / D=t;have e1:s*D=((p 1).z-(p 0).z)*((p 2).y-(p 0).y)-((p 1).y-(p 0).y)*((p 2).z-(p 0).z):=by rw [← hs,Rat.div_mul_cancel ha]
 have e2:t*D=((p 1).x-(p 0).x)*((p 2).z-(p 0).z)-((p 1).z-(p 0).z)*((p 2).x-(p 0).x):=by rw [← ht,Rat.div_mul_cancel ha]
 have r:∀ i,i<3->ic p (l4 s t ((p 0).z-(s*(p 0).x+t*(p 0).y)) 0) i=0:=fun i hi=>by
  have can:∀ {a:Rat},D*a=0->a=0:=fun h=>(Rat.mul_eq_zero.1 h).resolve_left ha
  rcases (by omega:i=0∨i=1∨i=2) with rfl|rfl|rfl
  ·simp only [ic,nW,nV,nU,lf];grind
  ·refine can ?_;simp only [ic,nW,nV,nU,lf];grind
  ·refine can ?_;simp only [ic,nW,nV,nU,lf];grind
 have:=h.least (l4 s t ((p 0).z-(s*(p 0).x+t*(p 0).y)) 0) (iI fun i hi=>by rw [r i hi];simp only [lf];grind);rw [fU] at this;exact this
end
end Go.Proofs.YtmahadmefplbnaaGreatDoor
