/- Part 48. -/
import Derived.Test.YtmahadmefplbnaaGreatDoorQFUB
import Derived.Test.YtmahadmefplbnaaGreatDoorQFU22
import Derived.Test.YtmahadmefplbnaaGreatDoorQFU47
set_option maxRecDepth 100000
set_option maxHeartbeats 2000000
namespace Go.Proofs.YtmahadmefplbnaaGreatDoor
open Go Go.RowKit
theorem lI (n:Int):(zs (n.natAbs:Int)).size=(Lib.decDigits n.natAbs).length:=a8 _
set_option maxHeartbeats 1000000 in
theorem Hn (a b:Int) {k m:Nat} (w:World) (g:Gd w) (ha:IB k a) (hb:IB m b) (hk:k<=9000) (hm:m<=9000):Calls Tryz.prog 73 #[.string (zs a),.string (zs b)] w (aC w (.string (zs (a*b)))):=by
 have s1:=lI a;have s2:=lI b;have s3:(Lib.decDigits a.natAbs).length<=9001:=ha.eM hk;have s4:(Lib.decDigits b.natAbs).length<=9001:=hb.eM hm;have p1:=eR a.natAbs;have p2:=eR b.natAbs;by_cases h:(Lib.decDigits a.natAbs).length+(Lib.decDigits b.natAbs).length<=18
 ·have h18:((zs (a.natAbs:Int)).size:Int)+((zs (b.natAbs:Int)).size:Int)<=18:=ae;have b1:a.natAbs<10 ^ (Lib.decDigits a.natAbs).length:=gY _;have b2:b.natAbs<10 ^ (Lib.decDigits b.natAbs).length:=gY _;have b3:(a*b).natAbs<1000000000000000000:=by
   rw [Int.natAbs_mul];have:=Nat.mul_lt_mul'' b1 b2;rw [← Nat.pow_add] at this;exact Nat.lt_of_lt_of_le this (Nat.pow_le_pow_right (n:=10) af h)
  have A1:Hid (a.natAbs<1000000000000000000):=ai (Nat.lt_of_lt_of_le b1 (show _<=10 ^ 18 from Nat.pow_le_pow_right af ae));have B1:Hid (b.natAbs<1000000000000000000):=ai (Nat.lt_of_lt_of_le b2 (show _<=10 ^ 18 from Nat.pow_le_pow_right af ae));have c1:-1000000000000000000<=a*b:=ae;have c2:a*b<=1000000000000000000:=ae;clear s1 s2 s3 s4 p1 p2 h b1 b2 b3 ha hb;go_enter Tryz.func73,Tryz.ntmps73;go_wp2_with (first
   | (go_at_call 149;((with_reducible refine (aD a w).mono ?_);rintro e w1 ⟨rfl,e1⟩))
   | (go_at_call 149;refine cto (aD b _) fun w2 e2=>?_)
   | (go_at_call 150;((with_reducible refine (od a w2 A1.out).mono ?_);rintro e w3 ⟨rfl,e3⟩))
   | (go_at_call 150;refine cto (od b _ B1.out) fun w4 e4=>?_;have e14:=((e1.trans e2).trans e3).trans e4)
   | (go_at_call 119;refine cto (og (a*b) ae ae _ (g.ext e14)) fun w5 e5=>?_))
  go_ret;exact ⟨rfl,e14.trans e5⟩
 ·have h18:¬ ((zs (a.natAbs:Int)).size:Int)+((zs (b.natAbs:Int)).size:Int)<=18:=ae;have S1:((zs (a.natAbs:Int)).size:Int)<=9001:=ae;have S2:((zs (b.natAbs:Int)).size:Int)<=9001:=ae;have L1:Hid ((Lib.decDigits a.natAbs).length<=20000):=ai ae;have L2:Hid ((Lib.decDigits b.natAbs).length<=20000):=ai ae;have FA:=ai (ha.oJ ae);have FB:=ai (hb.oJ ae);have FC:Hid (eS (a.natAbs*b.natAbs)):=ai (by rw [← Int.natAbs_mul];exact (ha.mul hb).oJ ae);have HS:=ai (zb a b);clear s1 s2 s3 s4 p1 p2 h ha hb;go_enter Tryz.func73,Tryz.ntmps73;go_wp2_with (first
   | (go_at_call 149;((with_reducible refine (aD a w).mono ?_);rintro e w1 ⟨rfl,e1⟩))
   | (go_at_call 149;refine cto (aD b _) fun w2 e2=>?_)
   | (go_at_call 153;((with_reducible refine (aN a.natAbs w2 L1.out).mono ?_);rintro e w3 ⟨va,rfl,e3,ma⟩;obtain ⟨aa,an,ac,rfl⟩:=ma.slice))
   | (go_at_call 153;refine (aN b.natAbs _ L2.out).mono ?_;rintro e w4 ⟨vb,rfl,e4,mb⟩;obtain ⟨ba,bn,bc,rfl⟩:=mb.slice;have e14:=((e1.trans e2).trans e3).trans e4)
   | (go_at_call 152;refine (zo a.natAbs b.natAbs _ _ _ (ma.ext e4) mb FA.out FB.out FC.out).mono ?_;rintro e w5 ⟨vc,rfl,e5,mc⟩;obtain ⟨ca,cn,cc,rfl⟩:=mc.slice)
   | (go_at_call 151;refine cto (bE _ (a.natAbs*b.natAbs) _ _ mc FC.out (g.ext (e14.trans e5))) fun w6 e6=>?_))
  go_ret;exact ⟨a6 HS.o,(e14.trans e5).trans e6⟩
end Go.Proofs.YtmahadmefplbnaaGreatDoor
