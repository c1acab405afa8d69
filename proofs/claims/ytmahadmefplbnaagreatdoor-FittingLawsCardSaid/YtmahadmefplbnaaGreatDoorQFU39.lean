/- Part 39. -/
import Derived.Test.YtmahadmefplbnaaGreatDoorQFUB
import Derived.Test.YtmahadmefplbnaaGreatDoorQFU38
set_option maxRecDepth 100000
set_option maxHeartbeats 2000000
set_option linter.unusedSimpArgs false
set_option linter.unusedVariables false
namespace Go.Proofs.YtmahadmefplbnaaGreatDoor
open Go Go.RowKit
def aI (c:Nat->Nat->Int) (i:Nat):V3:=oI (c i 0) (c i 1) (c i 2)
theorem aQ (c:Nat->Nat->Int) (i:Nat):bu (aI c i):=⟨⟨_,rfl,ju _⟩,⟨_,rfl,ju _⟩,⟨_,rfl,ju _⟩⟩
def vG (p:Nat->V3) (i:Nat):Value:=h3 (.string (qs (p (i / 3)).x)) (.string (qs (p (i / 3)).y)) (.string (qs (p (i / 3)).z)) (i % 3)
section
variable {X w W w':World} {b n:Nat} {p:Nat->V3} {v v':Value}
theorem F4 {t:TypeId} {a0 a1 a2:Value} (h:ak w b #[a0,a1,a2] t):∀ j,j<1*3->w.cell? ((⟨b,0,none⟩:Addr).add j)=some (h3 a0 a1 a2 j):=fun j hj=>by
 rcases (by omega:j=0∨j=1∨j=2) with rfl|rfl|rfl <;> exact fV h rfl
theorem Gg {a b c:ByteArray}:∀ j,j<1*3->(h3 (.string a) (.string b) (.string c) j).oneCell'=true:=fun j hj=>by
 rcases (by omega:j=0∨j=1∨j=2) with rfl|rfl|rfl <;> rfl
theorem vO (h:App X w 67 3 v n 1 (vG p) (h3 (.string (qs (p n).x)) (.string (qs (p n).y)) (.string (qs (p n).z))) v' w'):bV X w' 67 3 v' (n+1) (vG p) :=
 h.own.congr fun i hi=>by
  by_cases h1:i<n*3
  ·rw [fN h1]
  ·rw [en h1,vG,show i / 3=n by omega,show i % 3=i-n*3 by omega]
theorem zY (h:bV X w 67 3 v n (vG p)):∃ ao cap,v = .slice ao n cap/\n<=cap/\lT w ao n p:=by
 rcases h with ⟨rfl,rfl⟩|⟨k,cap,C,rfl,_,hB,hcp,_,_,hc⟩
 ·exact ⟨none,0,rfl,Nat.le_refl _,fun i hi=>absurd hi (Nat.not_lt_zero i)⟩
 ·refine ⟨_,cap,rfl,hcp,fun i hi=>⟨k,0,rfl,?_,?_,?_⟩⟩
  ·have:=hB.cell (0+i*3) (hc _ ae);rwa [vG,show (0+i*3) / 3=i by omega,show (0+i*3) % 3=0 by omega] at this
  ·have:=hB.cell (0+i*3+1) (hc _ ae);rwa [vG,show (0+i*3+1) / 3=i by omega,show (0+i*3+1) % 3=1 by omega] at this
  ·have:=hB.cell (0+i*3+2) (hc _ ae);rwa [vG,show (0+i*3+2) / 3=i by omega,show (0+i*3+2) % 3=2 by omega] at this
theorem vQ:Tryz.prog.underlying 55=some (.slice 67):=ag
theorem Ay:(Tryz.prog.info? 67).map (fun i=>(i.zero,i.size,i.bytes))=some (some (.agg #[.string ⟨#[]⟩,.string ⟨#[]⟩,.string ⟨#[]⟩]),3,48):=ag
end
def It (n:Nat) (p:Nat->V3) (w:World) (e:Ending) (w':World):Prop:=∃ ao cap,e = .returned (.slice ao n cap)/\Ext w w'/\n<=cap/\lT w' ao n p
theorem pA (wo:Option Addr) (m wcap:Nat) (c:Nat->Nat->Int) (w:World) (g:Gd w) (hw:DX w wo m c) (hc:∀ i j,-128<=c i j/\c i j<=127) (hm:m<=5):Calls Tryz.prog 25 #[.slice wo m wcap] w (It m (aI c) w):=by
 have HG:=ai g;have HW:=ai hw;have HC:=ai hc;clear g hw hc;go_enter Tryz.func25,Tryz.ntmps25;go_wp2_with fail;have HOL_0:Hid (bV w w 67 3 (.slice none 0 0) 0 (vG (aI c))):=ai (bV.nil _ _ _ _ _);go_wp2_with fail;go_loopw [4,3] (fun x0_ x1_ wx=>∃ k:Nat,∃ la:Option Addr,∃ ln:Nat,∃ lc:Nat,x0_ = .int .i64 k/\x1_ = .slice la ln lc/\k<=m/\Hid (Ext w wx/\bV w wx 67 3 (.slice la ln lc) k (vG (aI c)))) (fun x0_ _ _=>m-(intOf x0_).toNat)
 case atStart=>exact ⟨0,none,0,0,rfl,rfl,Nat.zero_le _,ai ⟨(Ext.refl w),HOL_0.o⟩⟩
 case round =>
  rename World=>w1
  obtain ⟨k,la,ln,lc,rfl,rfl,hkk,HH⟩:=hrel;have HX1:=ai HH.o.1;have HOL_1:=ai HH.o.2;clear HH;by_cases hlt:k<m
  ·have hlt2:(k:Int)<((m:Nat):Int):=ae;obtain ⟨wa,o_,rfl,zw_⟩:=HW.o k hlt;have z0_:=zw_ 0 af;rw [Nat.add_zero] at z0_;have z1_:=zw_ 1 af;have z2_:=zw_ 2 af;have HC0:=ai z0_;have HC1:=ai z1_;have HC2:=ai z2_;clear zw_ z0_ z1_ z2_;have hk5:(k:Int)<5:=ae;have cw_o____k___3:=aw HX1.o (HC0.o);have cw_o____k___3___1:=aw HX1.o (HC1.o);have cw_o____k___3___2:=aw HX1.o (HC2.o);go_wp2_with fail;refine cto (Ag (c k 0) (c k 1) (c k 2) _ (HG.o.ext (HX1.o)) (HC.o k 0) (HC.o k 1) (HC.o k 2)) fun w2 e2=>?_
   have HX2:=ai (HX1.o.trans e2);have HOL_2:=ai (HOL_1.o.ext e2);clear e2 cw_o____k___3 cw_o____k___3___1 cw_o____k___3___2;go_wp2_with (
    at_builtin;refine wpList_plain rfl fun K_ hK_=>gJ (X:=w) (H:=(h3 (.string (qs ((aI c k).x))) (.string (qs ((aI c k).y))) (.string (qs ((aI c k).z))))) (ad:=⟨w2.heap.size,0,none⟩) (m:=1) (c:=1) (v:=.slice la ln lc) rfl rfl rfl vQ Ay rfl (HX2.o.alloc _) (HOL_2.o.alloc _) (fun _=>af) (F4 (ak.nw (#[.string (qs ((aI c k).x)),.string (qs ((aI c k).y)),.string (qs ((aI c k).z))]) 67)) Gg (by unfold maxLen;omega) ae (fun a3_ n3_ c3_ w3 hA_=>hK_ _ _ ?_)
    have HX3:Hid (Ext w w3):=ai hA_.mv.ext;have HOL_3:Hid (bV w w3 67 3 (.slice a3_ n3_ c3_) (k+1) (vG (aI c))):=ai (vO hA_);clear hA_
   )
   go_roundw
   case rel=>exact ⟨k+1,_,_,_,by go_num,rfl,ae,ai ⟨HX3.o,HOL_3.o⟩⟩
   case measure=>simp [intOf];omega
  ·have hk2:k=m:=ae;have hge:¬ (k:Int)<((m:Nat):Int):=ae;have ho_:=(hk2▸HOL_1.o:bV w w1 67 3 (.slice la ln lc) m (vG (aI c)))
   obtain ⟨ao,cap,ev_,hnc_,hv_⟩:=zY ho_;cases ev_;have HVQ:=ai hv_;clear hv_ ho_;go_wp2;go_ret;exact ⟨_,_,rfl,HX1.o,hnc_,HVQ.o⟩
theorem cK {w:World} {la o n:Nat} {p:Nat->V3} (h:lT w (some ⟨la,o,none⟩) n p) (i:Nat) (hi:i<n):w.cell? ⟨la,o+i*3,none⟩=some (.string (qs (p i).x))/\w.cell? ⟨la,o+i*3+1,none⟩=some (.string (qs (p i).y))/\w.cell? ⟨la,o+i*3+2,none⟩=some (.string (qs (p i).z)):=by
 obtain ⟨a,o',e,h1,h2,h3⟩:=h i hi;cases e;exact ⟨h1,h2,h3⟩
end Go.Proofs.YtmahadmefplbnaaGreatDoor
