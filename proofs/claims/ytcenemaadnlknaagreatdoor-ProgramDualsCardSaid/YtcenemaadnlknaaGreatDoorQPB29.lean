/- Part 29 of the proof: P2. -/
import Derived.Test.YtcenemaadnlknaaGreatDoorQPB28
set_option maxRecDepth 100000
set_option maxHeartbeats 2000000
set_option linter.unusedVariables false
theorem Go.Proofs.YtcenemaadnlknaaGreatDoor.Hi29 {p:Prop} (h:p):Go.RowKit.Hid p:=h
namespace Go.Proofs.YtcenemaadnlknaaGreatDoor
open Go Go.RowKit
theorem p3_any (s:ByteArray) (w:World) (g:Gd w) (hl:s.size<=1000000):∃ a b:ByteArray,Calls Tryz.prog 44 #[.string s] w (Ret w (.tuple #[.string a,.string b,.bool (rq s)])):=by
 rcases slash_cases s.data.toList with hn|⟨x,y,hs,hx⟩
 ·refine ⟨_,_,p3_none s (rq s) w hn hl ⟨fun h=>rq_true.2 ((rightQ_none hn).2 h),fun h=>rq_false.2 (fun e=>h ((rightQ_none hn).1 e))⟩⟩
 ·have hq:=rightQ_at hs hx
  refine ⟨_,_,p3_at s x y (rq s) w g hs hx hl ?_⟩
  by_cases h1:RightI x
  ·by_cases h2:RightI y
   ·right;right
    obtain ⟨a,rfl,ha⟩:=h1
    obtain ⟨b,rfl,hb⟩:=h2
    refine ⟨a,b,rfl,rfl,IB.of_len ha,IB.of_len hb,?_⟩
    have key:RightQ s.data.toList ↔ (1<b/\Int.gcd a b=1):=by
     constructor
     ·intro e
      obtain ⟨a',b',e1,e2,_,_,k1,k2,k3⟩:=hq.1 e
      have:=zl_inj e1;have:=zl_inj e2
      subst_vars
      exact ⟨by omega,k3⟩
     ·rintro ⟨k1,k3⟩
      have k2:a≠0:=by
       intro e;subst e
       rw [Int.gcd_zero_left] at k3
       omega
      refine hq.2 ⟨a,b.natAbs,rfl,?_,ha,hb,by omega,k2,?_⟩
      ·rw [show ((b.natAbs:Nat):Int)=b by omega]
      ·rw [show ((b.natAbs:Nat):Int)=b by omega];exact k3
    by_cases h3:1<b
    ·by_cases h4:Int.gcd a b=1
     ·exact Or.inr (Or.inr ⟨h3,h4,rq_true.2 (key.2 ⟨h3,h4⟩)⟩)
     ·exact Or.inr (Or.inl ⟨h3,h4,rq_false.2 (fun e=>h4 (key.1 e).2)⟩)
    ·exact Or.inl ⟨h3,rq_false.2 (fun e=>h3 (key.1 e).1)⟩
   ·right;left
    exact ⟨h1,h2,rq_false.2 (fun e=>by obtain ⟨a,b,e1,e2,_,h4,_⟩:=hq.1 e;exact h2 ⟨b,e2,by simpa using h4⟩)⟩
  ·left
   exact ⟨h1,rq_false.2 (fun e=>by obtain ⟨a,b,e1,e2,h3,_⟩:=hq.1 e;exact h1 ⟨a,e1,h3⟩)⟩
theorem r7_c (s:ByteArray) (w:World) (g:Gd w) (hl:s.size<=1000000):Calls Tryz.prog 42 #[.string s] w (Ret w (.bool (rq s))):=by
 obtain ⟨a,b,h⟩:=p3_any s w g hl
 have H:=Hi29 h
 clear h g
 go_enter Tryz.func42,Tryz.ntmps42
 go_wp2_with (go_at_call 44;refine H.out.mono ?_;rintro e w1 ⟨rfl,e1⟩)
 go_ret
 exact ⟨rfl,e1⟩
end Go.Proofs.YtcenemaadnlknaaGreatDoor
