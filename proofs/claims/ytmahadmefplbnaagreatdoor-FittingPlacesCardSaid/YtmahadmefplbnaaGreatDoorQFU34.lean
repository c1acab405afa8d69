/- Part 34. -/
import Derived.Test.YtmahadmefplbnaaGreatDoorQFUB
import Derived.Test.YtmahadmefplbnaaGreatDoorQFU26
import Derived.ChangeKeysEq
set_option maxRecDepth 100000
set_option maxHeartbeats 2000000
set_option linter.unusedVariables false
namespace Go.Proofs.YtmahadmefplbnaaGreatDoor
open Go Go.RowKit
theorem AD (a q:Int) (e:1*a=q) {k:Nat} (w:World) (g:Gd w) (ha:IB k a) (hk:k<=2000):Calls Tryz.prog 88 #[.string ⟨#[49]⟩,.string (zs a)] w (aC w (.string (zs q))):=by
 subst e;exact AB a w g ha ae
theorem CJ (a c q:Int) (e:a*c=q) {k m:Nat} (w:World) (g:Gd w) (ha:IB k a) (hc:IB m c) (hk:k<=2000) (hm:m<=2000):Calls Tryz.prog 88 #[.string (zs a),.string (zs c)] w (aC w (.string (zs q))):=by
 subst e;exact eA a c w g ha hc ae ae
theorem zV (n:Int) {k:Nat} (w:World) (h:IB k n) (h1:1<=k) (hk:k<=2000):Calls Tryz.prog 86 #[.string (zs n)] w (aC w (.tuple #[.string (zs n),.string ⟨#[49]⟩])):=by
 have:=bN (n:Rat) w (QB.int h h1) ae;rwa [jF,Rat.num_intCast,Rat.den_intCast,show ((1:Nat):Int)=1 from rfl,eU] at this
theorem Ey (a b:V3) {k m:Nat} (w:World) (g:Gd w) (ha:VB k a) (hb:VB m b) (hk:k<=200) (hm:m<=200):Calls Tryz.prog 263 #[.agg #[.string (qs a.x),.string (qs a.y),.string (qs a.z)],.agg #[.string (qs b.x),.string (qs b.y),.string (qs b.z)]] w (aC w (.string (qs (a.x*b.x+a.y*b.y+a.z*b.z)))):=by
 have HA:=ai ha;have HB:=ai hb;have HG:=ai g;clear ha hb g;go_enter Tryz.func263,Tryz.ntmps263;go_wp2_with fail;refine au (fun W=>Ext w W/\ak W (w.heap.size) #[.string (qs a.x),.string (qs a.y),.string (qs a.z)] 67/\ak W (w.heap.size+1) #[.string (qs b.x),.string (qs b.y),.string (qs b.z)] 67) ⟨(((Ext.refl w).alloc _).alloc _),((ak.nw (#[.string (qs a.x),.string (qs a.y),.string (qs a.z)]) 67).alloc _),(ak.nw (#[.string (qs b.x),.string (qs b.y),.string (qs b.z)]) 67)⟩ ?_;rintro w1 ⟨e1,bB0_1,bB1_1⟩;have HX1:=ai e1;have HB0_1:=ai bB0_1;have HB1_1:=ai bB1_1;have HGEB0:Hid (w.heap.size<=w.heap.size):=ai (Nat.le_refl _);have HGEB1:Hid (w.heap.size<=w.heap.size+1):=ai ae;clear e1 bB0_1 bB1_1;refine nu [.val (.pointer (some ⟨w.heap.size,0,none⟩)),.val (.string (qs a.x)),.val (.pointer (some ⟨w.heap.size+1,0,none⟩)),.val (.string (qs b.x)),.val (.string (qs (a.x*b.x))),.val (.pointer (some ⟨w.heap.size,1,none⟩)),.val (.string (qs a.y)),.val (.pointer (some ⟨w.heap.size+1,1,none⟩)),.val (.string (qs b.y)),.val (.string (qs (a.y*b.y))),.val (.pointer (some ⟨w.heap.size,2,none⟩)),.val (.string (qs a.z)),.val (.pointer (some ⟨w.heap.size+1,2,none⟩)),.val (.string (qs b.z)),.val (.string (qs (a.z*b.z))),.mem (fun b_ => .slice (some ⟨b_,0,none⟩) 3 3) #[.string (qs (a.x*b.x)),.string (qs (a.y*b.y)),.string (qs (a.z*b.z))] 34 Option.none,.val (.string (qs (a.x*b.x+a.y*b.y+a.z*b.z))),.val (.string (qs (a.x*b.x+a.y*b.y+a.z*b.z)))] ag ag ag ?_ (fun g1 w2 hx_ hm_ hne_=>?_)
 ·skip
  refine eY.cons (fun g1 A_ W_ hs_=>?_) ?_
  ·have q2_:=(hs_.old 2 (by kernel_rfl):A_.tmps[2]?.getD undef = .pointer (some ⟨w.heap.size,0,none⟩))
   refine Rn.val fun K_ hK_=>?_
   go_simp;exact hK_.o _ (Ext.refl _)
  refine eY.cons (fun g1 A_ W_ hs_=>?_) ?_
  ·have q5_:=hs_.val 0 rfl rfl rfl;have cB0_0:=((HB0_1.o.drew.ext hs_.1)).cell 0 rfl;refine Rn.val fun K_ hK_=>?_
   go_simp;exact hK_.o _ (Ext.refl _)
  refine eY.cons (fun g1 A_ W_ hs_=>?_) ?_
  ·have q3_:=(hs_.old 3 (by kernel_rfl):A_.tmps[3]?.getD undef = .pointer (some ⟨w.heap.size+1,0,none⟩))
   refine Rn.val fun K_ hK_=>?_
   go_simp;exact hK_.o _ (Ext.refl _)
  refine eY.cons (fun g1 A_ W_ hs_=>?_) ?_
  ·have q7_:=hs_.val 2 rfl rfl rfl;have cB1_0:=((HB1_1.o.drew.ext hs_.1)).cell 0 rfl;refine Rn.val fun K_ hK_=>?_
   go_simp;exact hK_.o _ (Ext.refl _)
  refine eY.cons (fun g1 A_ W_ hs_=>?_) ?_
  ·have q6_:=hs_.val 1 rfl rfl rfl;have q8_:=hs_.val 3 rfl rfl rfl;refine Rn.val fun K_ hK_=>?_
   go_simp;refine (cD a.x b.x _ (HG.o.ext (HX1.o.drew.trans hs_.1)) HA.o.x HB.o.x ae ae).mono ?_;rintro e W9_ ⟨rfl,e9_⟩;exact hK_.o _ e9_
  refine eY.cons (fun g1 A_ W_ hs_=>?_) ?_
  ·have q2_:=(hs_.old 2 (by kernel_rfl):A_.tmps[2]?.getD undef = .pointer (some ⟨w.heap.size,0,none⟩))
   refine Rn.val fun K_ hK_=>?_
   go_simp;exact hK_.o _ (Ext.refl _)
  refine eY.cons (fun g1 A_ W_ hs_=>?_) ?_
  ·have q10_:=hs_.val 5 rfl rfl rfl;have cB0_1:=((HB0_1.o.drew.ext hs_.1)).cell 1 rfl;refine Rn.val fun K_ hK_=>?_
   go_simp;exact hK_.o _ (Ext.refl _)
  refine eY.cons (fun g1 A_ W_ hs_=>?_) ?_
  ·have q3_:=(hs_.old 3 (by kernel_rfl):A_.tmps[3]?.getD undef = .pointer (some ⟨w.heap.size+1,0,none⟩))
   refine Rn.val fun K_ hK_=>?_
   go_simp;exact hK_.o _ (Ext.refl _)
  refine eY.cons (fun g1 A_ W_ hs_=>?_) ?_
  ·have q12_:=hs_.val 7 rfl rfl rfl;have cB1_1:=((HB1_1.o.drew.ext hs_.1)).cell 1 rfl;refine Rn.val fun K_ hK_=>?_
   go_simp;exact hK_.o _ (Ext.refl _)
  refine eY.cons (fun g1 A_ W_ hs_=>?_) ?_
  ·have q11_:=hs_.val 6 rfl rfl rfl;have q13_:=hs_.val 8 rfl rfl rfl;refine Rn.val fun K_ hK_=>?_
   go_simp;refine (cD a.y b.y _ (HG.o.ext (HX1.o.drew.trans hs_.1)) HA.o.y HB.o.y ae ae).mono ?_;rintro e W9_ ⟨rfl,e9_⟩;exact hK_.o _ e9_
  refine eY.cons (fun g1 A_ W_ hs_=>?_) ?_
  ·have q2_:=(hs_.old 2 (by kernel_rfl):A_.tmps[2]?.getD undef = .pointer (some ⟨w.heap.size,0,none⟩))
   refine Rn.val fun K_ hK_=>?_
   go_simp;exact hK_.o _ (Ext.refl _)
  refine eY.cons (fun g1 A_ W_ hs_=>?_) ?_
  ·have q15_:=hs_.val 10 rfl rfl rfl;have cB0_2:=((HB0_1.o.drew.ext hs_.1)).cell 2 rfl;refine Rn.val fun K_ hK_=>?_
   go_simp;exact hK_.o _ (Ext.refl _)
  refine eY.cons (fun g1 A_ W_ hs_=>?_) ?_
  ·have q3_:=(hs_.old 3 (by kernel_rfl):A_.tmps[3]?.getD undef = .pointer (some ⟨w.heap.size+1,0,none⟩))
   refine Rn.val fun K_ hK_=>?_
   go_simp;exact hK_.o _ (Ext.refl _)
  refine eY.cons (fun g1 A_ W_ hs_=>?_) ?_
  ·have q17_:=hs_.val 12 rfl rfl rfl;have cB1_2:=((HB1_1.o.drew.ext hs_.1)).cell 2 rfl;refine Rn.val fun K_ hK_=>?_
   go_simp;exact hK_.o _ (Ext.refl _)
  refine eY.cons (fun g1 A_ W_ hs_=>?_) ?_
  ·have q16_:=hs_.val 11 rfl rfl rfl;have q18_:=hs_.val 13 rfl rfl rfl;refine Rn.val fun K_ hK_=>?_
   go_simp;refine (cD a.z b.z _ (HG.o.ext (HX1.o.drew.trans hs_.1)) HA.o.z HB.o.z ae ae).mono ?_;rintro e W9_ ⟨rfl,e9_⟩;exact hK_.o _ e9_
  refine eY.cons (fun g1 A_ W_ hs_=>?_) ?_
  ·have q9_:=hs_.val 4 rfl rfl rfl;have q14_:=hs_.val 9 rfl rfl rfl;have q19_:=hs_.val 14 rfl rfl rfl;refine Rn.mem fun K_ hK_=>?_
   go_simp;exact hK_.o
  refine eY.cons (fun g1 A_ W_ hs_=>?_) ?_
  ·have q20_:=(hs_.mem 15 rfl rfl rfl).1;refine Rn.val fun K_ hK_=>?_
   go_simp;refine (tU (a.x*b.x) (a.y*b.y) (a.z*b.z) (g1 15) _ (HG.o.ext (HX1.o.drew.trans hs_.1)) (HA.o.x.mul HB.o.x) (HA.o.y.mul HB.o.y) (HA.o.z.mul HB.o.z) ((hs_.mem 15 rfl rfl rfl).2.2 rfl) ae).mono ?_;rintro e W9_ ⟨rfl,e9_⟩;exact hK_.o _ e9_
  refine eY.cons (fun g1 A_ W_ hs_=>?_) ?_
  ·have q21_:=hs_.val 16 rfl rfl rfl;refine Rn.val fun K_ hK_=>?_
   go_simp;exact hK_.o _ (Ext.refl _)
  exact eY.nil
 simp only [fs,Kd.value,a7,Act.put,List.setIfInBounds_toArray,List.set_cons_zero,List.set_cons_succ,Nat.reduceAdd];have HX2:Hid (Ext w w2):=ai (HX1.o.drew.trans hx_);have HB2_2:Hid (ak w2 (g1 15) #[.string (qs (a.x*b.x)),.string (qs (a.y*b.y)),.string (qs (a.z*b.z))] 34):=ai (hm_ 15 _ _ _ _ rfl).2;have HGEB2:Hid (w.heap.size<=g1 15):=ai (Nat.le_trans HX1.o.size (hm_ 15 _ _ _ _ rfl).1);clear hx_ hm_ hne_;generalize g1 15=i2 at *;clear g1;go_wp2;go_ret;exact ⟨rfl,HX2.o⟩
theorem BV (X:Int) (h:0<X) (w:World):Calls Tryz.prog 31 #[.string (zs X)] w (fun e w'=>e = .returned (.int .i64 1)/\w=w'):=by
 have:=aU (X:Rat) w;rwa [jF,Rat.num_intCast,Int.sign_eq_one_of_pos h] at this
theorem Ax (r:Nat) (X:Int) (e:((r*r:Nat):Int)=X) (w:World) (g:Gd w) (h0:0<r) (h1:r*r<1000000000):Calls Tryz.prog 276 #[.string (zs X)] w (aC w (.tuple #[.string (zs (r:Int)),.int .i64 0])):=by
 subst e;exact wJ r w g h0 h1
theorem CI (w:World) (g:Gd w):Calls Tryz.prog 276 #[.string ⟨#[49]⟩] w (aC w (.tuple #[.string ⟨#[49]⟩,.int .i64 0])):=by
 have:=wJ 1 w g af af;rwa [show ((1*1:Nat):Int)=1 from rfl,eU] at this
theorem CM (w:World) (g:Gd w):Calls Tryz.prog 88 #[.string ⟨#[49]⟩,.string ⟨#[49]⟩] w (aC w (.string ⟨#[49]⟩)):=by
 have:=AD 1 1 rfl w g IB.one af;rwa [eU] at this
theorem E9 (n:Int) {k:Nat} (w:World) (hn:IB k n) (hk:k<=9000):Calls Tryz.prog 249 #[.string (zs n),.string ⟨#[49]⟩] w (fun e w'=>e = .returned (.string (zs n))/\w=w'):=by
 have:=nZ n 1 w hn (⟨af⟩:IB 1 ((1:Nat):Int)) hk af;rwa [show ((1:Nat):Int)=1 from rfl,eU,show (⟨(eQ n 1).toArray⟩:ByteArray)=zs n by unfold eQ;rw [if_pos rfl];rfl] at this
theorem BW (r:Nat) (X:Int) (e:((r*r:Nat):Int)=X) (w:World) (g:Gd w) (h0:0<r) (h1:r*r<1000000000):Calls Tryz.prog 262 #[.string (zs X)] w (aC w (.tuple #[.string (zs (r:Int)),.bool true])):=by
 have HX9:=ai e;have H0:=ai h0;have H1:=ai h1;have HG:=ai g;clear e h0 h1 g;have HRB:Hid (IB 9 (r:Int)):=ai ⟨by rw [Int.natAbs_natCast];have h0:=H0.o;have h1:=H1.o;have h2:=Nat.le_mul_self r;omega⟩;have HXB:Hid (IB 9 X):=ai ⟨by have h1:=H1.o;have h2:=HX9.o;omega⟩;have HXP:Hid (0<X):=ai (by have h0:=Nat.mul_pos H0.o H0.o;have h2:=HX9.o;omega);go_enter Tryz.func262,Tryz.ntmps262;go_wp2_with fail;refine (BV X HXP.o _).mono ?_;rintro e _ ⟨rfl,rfl⟩;go_wp2_with fail;refine cto (zV X _ HXB.o af af) fun w1 e1=>?_
 have HX1:Hid (Ext w w1):=ai ((Ext.refl w).trans e1);clear e1;go_wp2_with fail;refine cto (Ax r X HX9.o _ (HG.o.ext HX1.o) H0.o H1.o) fun w2 e2=>?_
 have HX2:=ai (HX1.o.trans e2);clear e2;go_wp2_with fail;refine cto (CI _ (HG.o.ext HX2.o)) fun w3 e3=>?_
 have HX3:=ai (HX2.o.trans e3);clear e3;go_wp2_with fail;refine cto (CJ (r:Int) (r:Int) X (by rw [← HX9.o,Int.natCast_mul]) _ (HG.o.ext HX3.o) HRB.o HRB.o af af) fun w4 e4=>?_
 have HX4:=ai (HX3.o.trans e4);clear e4;go_wp2_with fail;refine cto (CM _ (HG.o.ext HX4.o)) fun w5 e5=>?_
 have HX5:=ai (HX4.o.trans e5);clear e5;go_wp2_with fail;refine (E9 (r:Int) _ HRB.o af).mono ?_;rintro e _ ⟨rfl,rfl⟩;go_wp2;go_ret2;exact ⟨rfl,HX5.o⟩
theorem Ex (v:V3) (X:Int) (e:aR v v=(X:Rat)) {k:Nat} (w:World) (g:Gd w) (hv:VB k v) (hk:k<=200):Calls Tryz.prog 263 #[.agg #[.string (qs v.x),.string (qs v.y),.string (qs v.z)],.agg #[.string (qs v.x),.string (qs v.y),.string (qs v.z)]] w (aC w (.string (zs X))):=by
 have:=Ey v v w g hv hv hk hk;unfold aR at e;rwa [e,jF] at this
theorem zq (r:Nat) (X:Int) (l:Rat) (e:((r*r:Nat):Int)=X) (hl:l=((r:Int):Rat)) (w:World) (g:Gd w) (h0:0<r) (h1:r*r<1000000000):Calls Tryz.prog 262 #[.string (zs X)] w (aC w (.tuple #[.string (qs l),.bool true])):=by
 subst hl;rw [jF];exact BW r X e w g h0 h1
theorem EY {l:Rat} {r:Nat} (hl:l=((r:Int):Rat)) (h1:r*r<1000000000):QB 9 l:=by
 subst hl;exact QB.int ⟨by rw [Int.natAbs_natCast];have h2:=Nat.le_mul_self r;omega⟩ af
theorem zy (v:V3) (l:Rat) (r:Nat) (X:Int) (e:((r*r:Nat):Int)=X) {k:Nat} (w:World) (g:Gd w) (h0:0<r) (h1:r*r<1000000000) (hv:VB k v) (hk:k<=40) (hd:aR v v=(X:Rat)) (hl:l=((r:Int):Rat)):Calls Tryz.prog 226 #[.agg #[.string (qs v.x),.string (qs v.y),.string (qs v.z)]] w (aC w (.tuple #[.string (qs l),.int .i64 0])):=by
 have HX9:=ai e;have H0:=ai h0;have H1:=ai h1;have HV:=ai hv;have HD:=ai hd;have HL:=ai hl;have HG:=ai g;clear e h0 h1 hv hd hl g;have HLB:=ai (EY HL.o H1.o);go_enter Tryz.func226,Tryz.ntmps226;go_wp2_with fail;refine cto (o8 v _ (HG.o.ext ((Ext.refl w).alloc _)) (HV.o.mono ae)) fun w1 e1=>?_
 have HX1:Hid (Ext w w1):=ai (((Ext.refl w).alloc _).trans e1);have HB0_1:Hid (ak w1 (w.heap.size) #[.string (qs v.x),.string (qs v.y),.string (qs v.z)] 67):=ai (ak.ext (ak.nw (#[.string (qs v.x),.string (qs v.y),.string (qs v.z)]) 67) e1);have HGEB0:Hid (w.heap.size<=w.heap.size):=ai (Nat.le_refl _);clear e1;have c0_0:=HB0_1.o.cell 0 rfl;have c0_1:=HB0_1.o.cell 1 rfl;have c0_2:=HB0_1.o.cell 2 rfl;go_wp2_with fail;refine cto (Ex v X HD.o _ (HG.o.ext HX1.o) HV.o ae) fun w2 e2=>?_
 have HX2:=ai (HX1.o.trans e2);clear e2 c0_0 c0_1 c0_2;go_wp2_with fail;refine cto (zq r X l HX9.o HL.o _ (HG.o.ext HX2.o) H0.o H1.o) fun w3 e3=>?_
 have HX3:=ai (HX2.o.trans e3);clear e3;go_wp2_with fail;refine cto (fE (qs l) _ (HG.o.ext HX3.o) ((HLB.o.mono (by decide):QB 200 l).len af) (fD (HLB.o.mono af))) fun w4 e4=>?_
 have HX4:=ai (HX3.o.trans e4);clear e4;go_wp2;go_ret2;exact ⟨rfl,HX4.o⟩
end Go.Proofs.YtmahadmefplbnaaGreatDoor
namespace Go.Proofs.YtmahadmefplbnaaGreatDoor
theorem f0:True:=by
 /- du iQ o8 mR mQ o7 jZ rN Er tU jW jB zy dL iZ Ag kn zu mM vof3_c uB bQ tv T3 TS T2 DU VB PB V3 P2 vv pv VB.mono VB.ts VB.all PB.ts PB.all ke -/
 trivial
end Go.Proofs.YtmahadmefplbnaaGreatDoor
