/- Part 33. -/
import Derived.Test.YtmahadmefplbnaaGreatDoorQFVB
import Derived.Test.YtmahadmefplbnaaGreatDoorQFV26
import Derived.ChangeKeysEq
set_option maxRecDepth 100000
set_option maxHeartbeats 2000000
open Go.Proofs.Tryz
set_option linter.unusedVariables false
namespace Go.Proofs.YtmahadmefplbnaaGreatDoor
open Go Go.RowKit
theorem AJ(a q:Int)(e:1*a=q){k:Nat}(w:World)(g:Gd w)(ha:IB k a)(hk:k<=2000):Calls prog 88 #[.string ⟨#[49]⟩,.string (zs a)] w (aD w (.string (zs q))):=by
 subst e;exact AI a w g ha ae
theorem Db(a c q:Int)(e:a*c=q){k m:Nat}(w:World)(g:Gd w)(ha:IB k a)(hc:IB m c)(hk:k<=2000)(hm:m<=2000):Calls prog 88 #[.string (zs a),.string (zs c)] w (aD w (.string (zs q))):=by
 subst e;exact eB a c w g ha hc ae ae
theorem z8(n:Int){k:Nat}(w:World)(h:IB k n)(h1:1<=k)(hk:k<=2000):Calls prog 86 #[.string (zs n)] w (aD w (.tuple #[.string (zs n),.string ⟨#[49]⟩])):=by
 have:=bT (n:Rat) w (QB.int h h1) ae;rwa[jz,Rat.num_intCast,Rat.den_intCast,show((1:Nat):Int)=1 from rfl,fe] at this
theorem EI(a b:V3){k m:Nat}(w:World)(g:Gd w)(ha:VB k a)(hb:VB m b)(hk:k<=200)(hm:m<=200):Calls prog 263 #[.agg #[.string (qs a.x),.string (qs a.y),.string (qs a.z)],.agg #[.string (qs b.x),.string (qs b.y),.string (qs b.z)]] w (aD w (.string (qs (a.x*b.x+a.y*b.y+a.z*b.z)))):=by
 have HA:=ai ha;have HB:=ai hb;have HG:=ai g;clear ha hb g;go_enter func263,ntmps263;go_wp2_with fail;refine aw (fun W=>Ext w W/\aq W (w.heap.size) #[.string (qs a.x),.string (qs a.y),.string (qs a.z)] 67/\aq W (w.heap.size+1) #[.string (qs b.x),.string (qs b.y),.string (qs b.z)] 67) ⟨(((Ext.refl w).alloc _).alloc _),((aq.nw (#[.string (qs a.x),.string (qs a.y),.string (qs a.z)]) 67).alloc _),(aq.nw (#[.string (qs b.x),.string (qs b.y),.string (qs b.z)]) 67)⟩ ?_;rintro w1 ⟨e1,bB0_1,bB1_1⟩;have HX1:=ai e1;have HB0_1:=ai bB0_1;have HB1_1:=ai bB1_1;have HGEB0:Hid (w.heap.size<=w.heap.size):=ai (Nat.le_refl _);have HGEB1:Hid (w.heap.size<=w.heap.size+1):=ai ae;clear e1 bB0_1 bB1_1;refine mS [.val (.pointer (some ⟨w.heap.size,0,none⟩)),.val (.string (qs a.x)),.val (.pointer (some ⟨w.heap.size+1,0,none⟩)),.val (.string (qs b.x)),.val (.string (qs (a.x*b.x))),.val (.pointer (some ⟨w.heap.size,1,none⟩)),.val (.string (qs a.y)),.val (.pointer (some ⟨w.heap.size+1,1,none⟩)),.val (.string (qs b.y)),.val (.string (qs (a.y*b.y))),.val (.pointer (some ⟨w.heap.size,2,none⟩)),.val (.string (qs a.z)),.val (.pointer (some ⟨w.heap.size+1,2,none⟩)),.val (.string (qs b.z)),.val (.string (qs (a.z*b.z))),.mem (fun b_ => .slice (some ⟨b_,0,none⟩) 3 3) #[.string (qs (a.x*b.x)),.string (qs (a.y*b.y)),.string (qs (a.z*b.z))] 34 Option.none,.val (.string (qs (a.x*b.x+a.y*b.y+a.z*b.z))),.val (.string (qs (a.x*b.x+a.y*b.y+a.z*b.z)))] ag ag ag ?_ (fun g1 w2 hx_ hm_ hne_=>?_)
 ·skip
  refine ft.cons (fun g1 A_ W_ hs_=>?_) ?_
  ·have q2_:=(hs_.old 2 (by kernel_rfl):A_.tmps[2]?.getD undef = .pointer (some ⟨w.heap.size,0,none⟩))
   refine Rn.val fun K_ hK_=>?_
   go_simp;exact hK_.o _ (Ext.refl _)
  refine ft.cons (fun g1 A_ W_ hs_=>?_) ?_
  ·have q5_:=hs_.val 0 rfl rfl rfl;have cB0_0:=((HB0_1.o.drew.ext hs_.1)).cell 0 rfl;refine Rn.val fun K_ hK_=>?_
   go_simp;exact hK_.o _ (Ext.refl _)
  refine ft.cons (fun g1 A_ W_ hs_=>?_) ?_
  ·have q3_:=(hs_.old 3 (by kernel_rfl):A_.tmps[3]?.getD undef = .pointer (some ⟨w.heap.size+1,0,none⟩))
   refine Rn.val fun K_ hK_=>?_
   go_simp;exact hK_.o _ (Ext.refl _)
  refine ft.cons (fun g1 A_ W_ hs_=>?_) ?_
  ·have q7_:=hs_.val 2 rfl rfl rfl;have cB1_0:=((HB1_1.o.drew.ext hs_.1)).cell 0 rfl;refine Rn.val fun K_ hK_=>?_
   go_simp;exact hK_.o _ (Ext.refl _)
  refine ft.cons (fun g1 A_ W_ hs_=>?_) ?_
  ·have q6_:=hs_.val 1 rfl rfl rfl;have q8_:=hs_.val 3 rfl rfl rfl;refine Rn.val fun K_ hK_=>?_
   go_simp;refine(bD a.x b.x _ (HG.o.ext (HX1.o.drew.trans hs_.1)) HA.o.x HB.o.x ae ae).mono ?_;rintro e W9_ ⟨rfl,e9_⟩;exact hK_.o _ e9_
  refine ft.cons (fun g1 A_ W_ hs_=>?_) ?_
  ·have q2_:=(hs_.old 2 (by kernel_rfl):A_.tmps[2]?.getD undef = .pointer (some ⟨w.heap.size,0,none⟩))
   refine Rn.val fun K_ hK_=>?_
   go_simp;exact hK_.o _ (Ext.refl _)
  refine ft.cons (fun g1 A_ W_ hs_=>?_) ?_
  ·have q10_:=hs_.val 5 rfl rfl rfl;have cB0_1:=((HB0_1.o.drew.ext hs_.1)).cell 1 rfl;refine Rn.val fun K_ hK_=>?_
   go_simp;exact hK_.o _ (Ext.refl _)
  refine ft.cons (fun g1 A_ W_ hs_=>?_) ?_
  ·have q3_:=(hs_.old 3 (by kernel_rfl):A_.tmps[3]?.getD undef = .pointer (some ⟨w.heap.size+1,0,none⟩))
   refine Rn.val fun K_ hK_=>?_
   go_simp;exact hK_.o _ (Ext.refl _)
  refine ft.cons (fun g1 A_ W_ hs_=>?_) ?_
  ·have q12_:=hs_.val 7 rfl rfl rfl;have cB1_1:=((HB1_1.o.drew.ext hs_.1)).cell 1 rfl;refine Rn.val fun K_ hK_=>?_
   go_simp;exact hK_.o _ (Ext.refl _)
  refine ft.cons (fun g1 A_ W_ hs_=>?_) ?_
  ·have q11_:=hs_.val 6 rfl rfl rfl;have q13_:=hs_.val 8 rfl rfl rfl;refine Rn.val fun K_ hK_=>?_
   go_simp;refine(bD a.y b.y _ (HG.o.ext (HX1.o.drew.trans hs_.1)) HA.o.y HB.o.y ae ae).mono ?_;rintro e W9_ ⟨rfl,e9_⟩;exact hK_.o _ e9_
  refine ft.cons (fun g1 A_ W_ hs_=>?_) ?_
  ·have q2_:=(hs_.old 2 (by kernel_rfl):A_.tmps[2]?.getD undef = .pointer (some ⟨w.heap.size,0,none⟩))
   refine Rn.val fun K_ hK_=>?_
   go_simp;exact hK_.o _ (Ext.refl _)
  refine ft.cons (fun g1 A_ W_ hs_=>?_) ?_
  ·have q15_:=hs_.val 10 rfl rfl rfl;have cB0_2:=((HB0_1.o.drew.ext hs_.1)).cell 2 rfl;refine Rn.val fun K_ hK_=>?_
   go_simp;exact hK_.o _ (Ext.refl _)
  refine ft.cons (fun g1 A_ W_ hs_=>?_) ?_
  ·have q3_:=(hs_.old 3 (by kernel_rfl):A_.tmps[3]?.getD undef = .pointer (some ⟨w.heap.size+1,0,none⟩))
   refine Rn.val fun K_ hK_=>?_
   go_simp;exact hK_.o _ (Ext.refl _)
  refine ft.cons (fun g1 A_ W_ hs_=>?_) ?_
  ·have q17_:=hs_.val 12 rfl rfl rfl;have cB1_2:=((HB1_1.o.drew.ext hs_.1)).cell 2 rfl;refine Rn.val fun K_ hK_=>?_
   go_simp;exact hK_.o _ (Ext.refl _)
  refine ft.cons (fun g1 A_ W_ hs_=>?_) ?_
  ·have q16_:=hs_.val 11 rfl rfl rfl;have q18_:=hs_.val 13 rfl rfl rfl;refine Rn.val fun K_ hK_=>?_
   go_simp;refine(bD a.z b.z _ (HG.o.ext (HX1.o.drew.trans hs_.1)) HA.o.z HB.o.z ae ae).mono ?_;rintro e W9_ ⟨rfl,e9_⟩;exact hK_.o _ e9_
  refine ft.cons (fun g1 A_ W_ hs_=>?_) ?_
  ·have q9_:=hs_.val 4 rfl rfl rfl;have q14_:=hs_.val 9 rfl rfl rfl;have q19_:=hs_.val 14 rfl rfl rfl;refine Rn.mem fun K_ hK_=>?_
   go_simp;exact hK_.o
  refine ft.cons (fun g1 A_ W_ hs_=>?_) ?_
  ·have q20_:=(hs_.mem 15 rfl rfl rfl).1;refine Rn.val fun K_ hK_=>?_
   go_simp;refine(pT (a.x*b.x) (a.y*b.y) (a.z*b.z) (g1 15) _ (HG.o.ext (HX1.o.drew.trans hs_.1)) (HA.o.x.mul HB.o.x) (HA.o.y.mul HB.o.y) (HA.o.z.mul HB.o.z) ((hs_.mem 15 rfl rfl rfl).2.2 rfl) ae).mono ?_;rintro e W9_ ⟨rfl,e9_⟩;exact hK_.o _ e9_
  refine ft.cons (fun g1 A_ W_ hs_=>?_) ?_
  ·have q21_:=hs_.val 16 rfl rfl rfl;refine Rn.val fun K_ hK_=>?_
   go_simp;exact hK_.o _ (Ext.refl _)
  exact ft.nil
 simp only[fs,Kd.value,aX,Act.put,List.setIfInBounds_toArray,List.set_cons_zero,List.set_cons_succ,Nat.reduceAdd];have HX2:Hid (Ext w w2):=ai (HX1.o.drew.trans hx_);have HB2_2:Hid (aq w2 (g1 15) #[.string (qs (a.x*b.x)),.string (qs (a.y*b.y)),.string (qs (a.z*b.z))] 34):=ai (hm_ 15 _ _ _ _ rfl).2;have HGEB2:Hid (w.heap.size<=g1 15):=ai (Nat.le_trans HX1.o.size (hm_ 15 _ _ _ _ rfl).1);clear hx_ hm_ hne_;generalize g1 15=i2 at *;clear g1;go_wp2;go_ret;exact⟨rfl,HX2.o⟩
theorem Ca(X:Int)(h:0<X)(w:World):Calls prog 31 #[.string (zs X)] w (fun e w'=>e = .returned (.int .i64 1)/\w=w'):=by
 have:=aU (X:Rat) w;rwa[jz,Rat.num_intCast,Int.sign_eq_one_of_pos h] at this
theorem AE(r:Nat)(X:Int)(e:((r*r:Nat):Int)=X)(w:World)(g:Gd w)(h0:0<r)(h1:r*r<1000000000):Calls prog 276 #[.string (zs X)] w (aD w (.tuple #[.string (zs (r:Int)),.int .i64 0])):=by
 subst e;exact wM r w g h0 h1
theorem Da(w:World)(g:Gd w):Calls prog 276 #[.string ⟨#[49]⟩] w (aD w (.tuple #[.string ⟨#[49]⟩,.int .i64 0])):=by
 have:=wM 1 w g af af;rwa[show((1*1:Nat):Int)=1 from rfl,fe] at this
theorem Dc(w:World)(g:Gd w):Calls prog 88 #[.string ⟨#[49]⟩,.string ⟨#[49]⟩] w (aD w (.string ⟨#[49]⟩)):=by
 have:=AJ 1 1 rfl w g IB.one af;rwa[fe] at this
theorem Fl(n:Int){k:Nat}(w:World)(hn:IB k n)(hk:k<=9000):Calls prog 249 #[.string (zs n),.string ⟨#[49]⟩] w (fun e w'=>e = .returned (.string (zs n))/\w=w'):=by
 have:=nH n 1 w hn (⟨af⟩:IB 1 ((1:Nat):Int)) hk af;rwa[show((1:Nat):Int)=1 from rfl,fe,show(⟨(eV n 1).toArray⟩:ByteArray)=zs n by unfold eV;rw[if_pos rfl];rfl] at this
theorem Cb(r:Nat)(X:Int)(e:((r*r:Nat):Int)=X)(w:World)(g:Gd w)(h0:0<r)(h1:r*r<1000000000):Calls prog 262 #[.string (zs X)] w (aD w (.tuple #[.string (zs (r:Int)),.bool true])):=by
 have HX9:=ai e;have H0:=ai h0;have H1:=ai h1;have HG:=ai g;clear e h0 h1 g;have HRB:Hid (IB 9 (r:Int)):=ai ⟨by rw[Int.natAbs_natCast];have h0:=H0.o;have h1:=H1.o;have h2:=Nat.le_mul_self r;omega⟩;have HXB:Hid (IB 9 X):=ai ⟨by have h1:=H1.o;have h2:=HX9.o;omega⟩;have HXP:Hid (0<X):=ai (by have h0:=Nat.mul_pos H0.o H0.o;have h2:=HX9.o;omega);go_enter func262,ntmps262;go_wp2_with fail;refine(Ca X HXP.o _).mono ?_;rintro e _ ⟨rfl,rfl⟩;go_wp2_with fail;refine cto (z8 X _ HXB.o af af) fun w1 e1=>?_
 have HX1:Hid (Ext w w1):=ai ((Ext.refl w).trans e1);clear e1;go_wp2_with fail;refine cto (AE r X HX9.o _ (HG.o.ext HX1.o) H0.o H1.o) fun w2 e2=>?_
 have HX2:=ai (HX1.o.trans e2);clear e2;go_wp2_with fail;refine cto (Da _ (HG.o.ext HX2.o)) fun w3 e3=>?_
 have HX3:=ai (HX2.o.trans e3);clear e3;go_wp2_with fail;refine cto (Db (r:Int) (r:Int) X (by rw[← HX9.o,Int.natCast_mul]) _ (HG.o.ext HX3.o) HRB.o HRB.o af af) fun w4 e4=>?_
 have HX4:=ai (HX3.o.trans e4);clear e4;go_wp2_with fail;refine cto (Dc _ (HG.o.ext HX4.o)) fun w5 e5=>?_
 have HX5:=ai (HX4.o.trans e5);clear e5;go_wp2_with fail;refine(Fl (r:Int) _ HRB.o af).mono ?_;rintro e _ ⟨rfl,rfl⟩;go_wp2;go_ret2;exact⟨rfl,HX5.o⟩
theorem EH(v:V3)(X:Int)(e:cv v v=(X:Rat)){k:Nat}(w:World)(g:Gd w)(hv:VB k v)(hk:k<=200):Calls prog 263 #[.agg #[.string (qs v.x),.string (qs v.y),.string (qs v.z)],.agg #[.string (qs v.x),.string (qs v.y),.string (qs v.z)]] w (aD w (.string (zs X))):=by
 have:=EI v v w g hv hv hk hk;unfold cv at e;rwa[e,jz] at this
theorem zA(r:Nat)(X:Int)(l:Rat)(e:((r*r:Nat):Int)=X)(hl:l=((r:Int):Rat))(w:World)(g:Gd w)(h0:0<r)(h1:r*r<1000000000):Calls prog 262 #[.string (zs X)] w (aD w (.tuple #[.string (qs l),.bool true])):=by
 subst hl;rw[jz];exact Cb r X e w g h0 h1
theorem Fe{l:Rat}{r:Nat}(hl:l=((r:Int):Rat))(h1:r*r<1000000000):QB 9 l:=by
 subst hl;exact QB.int ⟨by rw[Int.natAbs_natCast];have h2:=Nat.le_mul_self r;omega⟩ af
theorem zG(v:V3)(l:Rat)(r:Nat)(X:Int)(e:((r*r:Nat):Int)=X){k:Nat}(w:World)(g:Gd w)(h0:0<r)(h1:r*r<1000000000)(hv:VB k v)(hk:k<=40)(hd:cv v v=(X:Rat))(hl:l=((r:Int):Rat)):Calls prog 226 #[.agg #[.string (qs v.x),.string (qs v.y),.string (qs v.z)]] w (aD w (.tuple #[.string (qs l),.int .i64 0])):=by
 have HX9:=ai e;have H0:=ai h0;have H1:=ai h1;have HV:=ai hv;have HD:=ai hd;have HL:=ai hl;have HG:=ai g;clear e h0 h1 hv hd hl g;have HLB:=ai (Fe HL.o H1.o);go_enter func226,ntmps226;go_wp2_with fail;refine cto (oG v _ (HG.o.ext ((Ext.refl w).alloc _)) (HV.o.mono ae)) fun w1 e1=>?_
 have HX1:Hid (Ext w w1):=ai (((Ext.refl w).alloc _).trans e1);have HB0_1:Hid (aq w1 (w.heap.size) #[.string (qs v.x),.string (qs v.y),.string (qs v.z)] 67):=ai (aq.ext (aq.nw (#[.string (qs v.x),.string (qs v.y),.string (qs v.z)]) 67) e1);have HGEB0:Hid (w.heap.size<=w.heap.size):=ai (Nat.le_refl _);clear e1;have c0_0:=HB0_1.o.cell 0 rfl;have c0_1:=HB0_1.o.cell 1 rfl;have c0_2:=HB0_1.o.cell 2 rfl;go_wp2_with fail;refine cto (EH v X HD.o _ (HG.o.ext HX1.o) HV.o ae) fun w2 e2=>?_
 have HX2:=ai (HX1.o.trans e2);clear e2 c0_0 c0_1 c0_2;go_wp2_with fail;refine cto (zA r X l HX9.o HL.o _ (HG.o.ext HX2.o) H0.o H1.o) fun w3 e3=>?_
 have HX3:=ai (HX2.o.trans e3);clear e3;go_wp2_with fail;refine cto (dw (qs l) _ (HG.o.ext HX3.o) ((HLB.o.mono (by decide):QB 200 l).len af) (eA (HLB.o.mono af))) fun w4 e4=>?_
 have HX4:=ai (HX3.o.trans e4);clear e4;go_wp2;go_ret2;exact⟨rfl,HX4.o⟩
end Go.Proofs.YtmahadmefplbnaaGreatDoor
namespace Go.Proofs.YtmahadmefplbnaaGreatDoor
theorem f0:True:=by
 /- dr dz oG mB mA xu pP y3 uf pT jO gP zG a6 dV Al ka zD mm vof3_c uB cg tv T3 TS T2 D5 VB PB V3 P2 vv pv VB.mono VB.ts VB.all PB.ts PB.all j2 -/
 trivial
end Go.Proofs.YtmahadmefplbnaaGreatDoor
