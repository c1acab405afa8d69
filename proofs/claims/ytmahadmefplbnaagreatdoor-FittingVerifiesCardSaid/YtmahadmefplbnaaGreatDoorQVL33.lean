/- Part 33. -/
import Derived.Test.YtmahadmefplbnaaGreatDoorQVLB
import Derived.Test.YtmahadmefplbnaaGreatDoorQVL26
import Derived.ChangeKeysEq
set_option maxRecDepth 100000
set_option maxHeartbeats 2000000
open Go.Proofs.Tryz
set_option linter.unusedVariables false
namespace Go.Proofs.YtmahadmefplbnaaGreatDoor
open Go Go.RowKit
theorem N6(a q:Int)(e:1*a=q){k:Nat}(w:World)(g:Gd w)(ha:IB k a)(hk:k<=2000):Calls prog 88 #[.string ⟨#[49]⟩,.string (zs a)] w (aZ w (.string (zs q))):=by
 subst e;exact N5 a w g ha ae
theorem SD(a c q:Int)(e:a*c=q){k m:Nat}(w:World)(g:Gd w)(ha:IB k a)(hc:IB m c)(hk:k<=2000)(hm:m<=2000):Calls prog 88 #[.string (zs a),.string (zs c)] w (aZ w (.string (zs q))):=by
 subst e;exact jm a c w g ha hc ae ae
theorem Nt(n:Int){k:Nat}(w:World)(h:IB k n)(h1:1<=k)(hk:k<=2000):Calls prog 86 #[.string (zs n)] w (aZ w (.tuple #[.string (zs n),.string ⟨#[49]⟩])):=by
 have:=dC (n:Rat) w (QB.int h h1) ae;rwa[qq,Rat.num_intCast,Rat.den_intCast,show((1:Nat):Int)=1 from rfl,j3] at this
theorem WD(a b:V3){k m:Nat}(w:World)(g:Gd w)(ha:VB k a)(hb:VB m b)(hk:k<=200)(hm:m<=200):Calls prog 263 #[.agg #[.string (qs a.x),.string (qs a.y),.string (qs a.z)],.agg #[.string (qs b.x),.string (qs b.y),.string (qs b.z)]] w (aZ w (.string (qs (a.x*b.x+a.y*b.y+a.z*b.z)))):=by
 have HA:=ai ha;have HB:=ai hb;have HG:=ai g;clear ha hb g;go_enter func263,ntmps263;go_wp2_with fail;refine aB (fun W=>Ext w W/\ay W (w.heap.size) #[.string (qs a.x),.string (qs a.y),.string (qs a.z)] 67/\ay W (w.heap.size+1) #[.string (qs b.x),.string (qs b.y),.string (qs b.z)] 67) ⟨(((Ext.refl w).alloc _).alloc _),((ay.nw (#[.string (qs a.x),.string (qs a.y),.string (qs a.z)]) 67).alloc _),(ay.nw (#[.string (qs b.x),.string (qs b.y),.string (qs b.z)]) 67)⟩ ?_;rintro w1 ⟨e1,a7,eI⟩;have aD:=ai e1;have ax:=ai a7;have aX:=ai eI;have aF:Hid (w.heap.size<=w.heap.size):=ai (Nat.le_refl _);have aS:Hid (w.heap.size<=w.heap.size+1):=ai ae;clear e1 a7 eI;refine vI [.val (.pointer (some ⟨w.heap.size,0,none⟩)),.val (.string (qs a.x)),.val (.pointer (some ⟨w.heap.size+1,0,none⟩)),.val (.string (qs b.x)),.val (.string (qs (a.x*b.x))),.val (.pointer (some ⟨w.heap.size,1,none⟩)),.val (.string (qs a.y)),.val (.pointer (some ⟨w.heap.size+1,1,none⟩)),.val (.string (qs b.y)),.val (.string (qs (a.y*b.y))),.val (.pointer (some ⟨w.heap.size,2,none⟩)),.val (.string (qs a.z)),.val (.pointer (some ⟨w.heap.size+1,2,none⟩)),.val (.string (qs b.z)),.val (.string (qs (a.z*b.z))),.mem (fun b_ => .slice (some ⟨b_,0,none⟩) 3 3) #[.string (qs (a.x*b.x)),.string (qs (a.y*b.y)),.string (qs (a.z*b.z))] 34 Option.none,.val (.string (qs (a.x*b.x+a.y*b.y+a.z*b.z))),.val (.string (qs (a.x*b.x+a.y*b.y+a.z*b.z)))] ag ag ag ?_ (fun g1 w2 nM aK XB=>?_)
 ·skip
  refine ke.cons (fun g1 A_ W_ aw=>?_) ?_
  ·have Nf:=(aw.old 2 (by kernel_rfl):A_.tmps[2]?.getD undef = .pointer (some ⟨w.heap.size,0,none⟩))
   refine Rn.val fun K_ aL=>?_
   go_simp;exact aL.o _ (Ext.refl _)
  refine ke.cons (fun g1 A_ W_ aw=>?_) ?_
  ·have q5_:=aw.val 0 rfl rfl rfl;have qcJ:=((ax.o.drew.ext aw.1)).cell 0 rfl;refine Rn.val fun K_ aL=>?_
   go_simp;exact aL.o _ (Ext.refl _)
  refine ke.cons (fun g1 A_ W_ aw=>?_) ?_
  ·have Z6:=(aw.old 3 (by kernel_rfl):A_.tmps[3]?.getD undef = .pointer (some ⟨w.heap.size+1,0,none⟩))
   refine Rn.val fun K_ aL=>?_
   go_simp;exact aL.o _ (Ext.refl _)
  refine ke.cons (fun g1 A_ W_ aw=>?_) ?_
  ·have q7_:=aw.val 2 rfl rfl rfl;have qkm:=((aX.o.drew.ext aw.1)).cell 0 rfl;refine Rn.val fun K_ aL=>?_
   go_simp;exact aL.o _ (Ext.refl _)
  refine ke.cons (fun g1 A_ W_ aw=>?_) ?_
  ·have q6_:=aw.val 1 rfl rfl rfl;have q8_:=aw.val 3 rfl rfl rfl;refine Rn.val fun K_ aL=>?_
   go_simp;refine(de a.x b.x _ (HG.o.ext (aD.o.drew.trans aw.1)) HA.o.x HB.o.x ae ae).mono ?_;rintro e jG ⟨rfl,ft⟩;exact aL.o _ ft
  refine ke.cons (fun g1 A_ W_ aw=>?_) ?_
  ·have Nf:=(aw.old 2 (by kernel_rfl):A_.tmps[2]?.getD undef = .pointer (some ⟨w.heap.size,0,none⟩))
   refine Rn.val fun K_ aL=>?_
   go_simp;exact aL.o _ (Ext.refl _)
  refine ke.cons (fun g1 A_ W_ aw=>?_) ?_
  ·have qa1:=aw.val 5 rfl rfl rfl;have qcI:=((ax.o.drew.ext aw.1)).cell 1 rfl;refine Rn.val fun K_ aL=>?_
   go_simp;exact aL.o _ (Ext.refl _)
  refine ke.cons (fun g1 A_ W_ aw=>?_) ?_
  ·have Z6:=(aw.old 3 (by kernel_rfl):A_.tmps[3]?.getD undef = .pointer (some ⟨w.heap.size+1,0,none⟩))
   refine Rn.val fun K_ aL=>?_
   go_simp;exact aL.o _ (Ext.refl _)
  refine ke.cons (fun g1 A_ W_ aw=>?_) ?_
  ·have Da:=aw.val 7 rfl rfl rfl;have qkl:=((aX.o.drew.ext aw.1)).cell 1 rfl;refine Rn.val fun K_ aL=>?_
   go_simp;exact aL.o _ (Ext.refl _)
  refine ke.cons (fun g1 A_ W_ aw=>?_) ?_
  ·have Db:=aw.val 6 rfl rfl rfl;have qa0:=aw.val 8 rfl rfl rfl;refine Rn.val fun K_ aL=>?_
   go_simp;refine(de a.y b.y _ (HG.o.ext (aD.o.drew.trans aw.1)) HA.o.y HB.o.y ae ae).mono ?_;rintro e jG ⟨rfl,ft⟩;exact aL.o _ ft
  refine ke.cons (fun g1 A_ W_ aw=>?_) ?_
  ·have Nf:=(aw.old 2 (by kernel_rfl):A_.tmps[2]?.getD undef = .pointer (some ⟨w.heap.size,0,none⟩))
   refine Rn.val fun K_ aL=>?_
   go_simp;exact aL.o _ (Ext.refl _)
  refine ke.cons (fun g1 A_ W_ aw=>?_) ?_
  ·have C9:=aw.val 10 rfl rfl rfl;have qcH:=((ax.o.drew.ext aw.1)).cell 2 rfl;refine Rn.val fun K_ aL=>?_
   go_simp;exact aL.o _ (Ext.refl _)
  refine ke.cons (fun g1 A_ W_ aw=>?_) ?_
  ·have Z6:=(aw.old 3 (by kernel_rfl):A_.tmps[3]?.getD undef = .pointer (some ⟨w.heap.size+1,0,none⟩))
   refine Rn.val fun K_ aL=>?_
   go_simp;exact aL.o _ (Ext.refl _)
  refine ke.cons (fun g1 A_ W_ aw=>?_) ?_
  ·have qaZ:=aw.val 12 rfl rfl rfl;have qkk:=((aX.o.drew.ext aw.1)).cell 2 rfl;refine Rn.val fun K_ aL=>?_
   go_simp;exact aL.o _ (Ext.refl _)
  refine ke.cons (fun g1 A_ W_ aw=>?_) ?_
  ·have R6:=aw.val 11 rfl rfl rfl;have C8:=aw.val 13 rfl rfl rfl;refine Rn.val fun K_ aL=>?_
   go_simp;refine(de a.z b.z _ (HG.o.ext (aD.o.drew.trans aw.1)) HA.o.z HB.o.z ae ae).mono ?_;rintro e jG ⟨rfl,ft⟩;exact aL.o _ ft
  refine ke.cons (fun g1 A_ W_ aw=>?_) ?_
  ·have q9_:=aw.val 4 rfl rfl rfl;have Kx:=aw.val 9 rfl rfl rfl;have Ng:=aw.val 14 rfl rfl rfl;refine Rn.mem fun K_ aL=>?_
   go_simp;exact aL.o
  refine ke.cons (fun g1 A_ W_ aw=>?_) ?_
  ·have R5:=(aw.mem 15 rfl rfl rfl).1;refine Rn.val fun K_ aL=>?_
   go_simp;refine(Ab (a.x*b.x) (a.y*b.y) (a.z*b.z) (g1 15) _ (HG.o.ext (aD.o.drew.trans aw.1)) (HA.o.x.mul HB.o.x) (HA.o.y.mul HB.o.y) (HA.o.z.mul HB.o.z) ((aw.mem 15 rfl rfl rfl).2.2 rfl) ae).mono ?_;rintro e jG ⟨rfl,ft⟩;exact aL.o _ ft
  refine ke.cons (fun g1 A_ W_ aw=>?_) ?_
  ·have qaY:=aw.val 16 rfl rfl rfl;refine Rn.val fun K_ aL=>?_
   go_simp;exact aL.o _ (Ext.refl _)
  exact ke.nil
 simp only[fs,Kd.value,b7,Act.put,aq,au,av,Nat.reduceAdd];have aM:Hid (Ext w w2):=ai (aD.o.drew.trans nM);have iK:Hid (ay w2 (g1 15) #[.string (qs (a.x*b.x)),.string (qs (a.y*b.y)),.string (qs (a.z*b.z))] 34):=ai (aK 15 _ _ _ _ rfl).2;have fF:Hid (w.heap.size<=g1 15):=ai (Nat.le_trans aD.o.size (aK 15 _ _ _ _ rfl).1);clear nM aK XB;generalize g1 15=i2 at *;clear g1;go_wp2;go_ret;exact⟨rfl,aM.o⟩
theorem RE(X:Int)(h:0<X)(w:World):Calls prog 31 #[.string (zs X)] w (fun e w'=>e = .returned (.int .i64 1)/\w=w'):=by
 have:=cr (X:Rat) w;rwa[qq,Rat.num_intCast,Int.sign_eq_one_of_pos h] at this
theorem N2(r:Nat)(X:Int)(e:((r*r:Nat):Int)=X)(w:World)(g:Gd w)(h0:0<r)(h1:r*r<1000000000):Calls prog 276 #[.string (zs X)] w (aZ w (.tuple #[.string (zs (r:Int)),.int .i64 0])):=by
 subst e;exact IZ r w g h0 h1
theorem SC(w:World)(g:Gd w):Calls prog 276 #[.string ⟨#[49]⟩] w (aZ w (.tuple #[.string ⟨#[49]⟩,.int .i64 0])):=by
 have:=IZ 1 w g af af;rwa[show((1*1:Nat):Int)=1 from rfl,j3] at this
theorem SE(w:World)(g:Gd w):Calls prog 88 #[.string ⟨#[49]⟩,.string ⟨#[49]⟩] w (aZ w (.string ⟨#[49]⟩)):=by
 have:=N6 1 1 rfl w g IB.one af;rwa[j3] at this
theorem Xm(n:Int){k:Nat}(w:World)(hn:IB k n)(hk:k<=9000):Calls prog 249 #[.string (zs n),.string ⟨#[49]⟩] w (fun e w'=>e = .returned (.string (zs n))/\w=w'):=by
 have:=wG n 1 w hn (⟨af⟩:IB 1 ((1:Nat):Int)) hk af;rwa[show((1:Nat):Int)=1 from rfl,j3,show(⟨(jS n 1).toArray⟩:ByteArray)=zs n by unfold jS;rw[if_pos rfl];rfl] at this
theorem RF(r:Nat)(X:Int)(e:((r*r:Nat):Int)=X)(w:World)(g:Gd w)(h0:0<r)(h1:r*r<1000000000):Calls prog 262 #[.string (zs X)] w (aZ w (.tuple #[.string (zs (r:Int)),.bool true])):=by
 have qM:=ai e;have H0:=ai h0;have H1:=ai h1;have HG:=ai g;clear e h0 h1 g;have yx:Hid (IB 9 (r:Int)):=ai ⟨by rw[Int.natAbs_natCast];have h0:=H0.o;have h1:=H1.o;have h2:=Nat.le_mul_self r;omega⟩;have Y1:Hid (IB 9 X):=ai ⟨by have h1:=H1.o;have h2:=qM.o;omega⟩;have HXP:Hid (0<X):=ai (by have h0:=Nat.mul_pos H0.o H0.o;have h2:=qM.o;omega);go_enter func262,ntmps262;go_wp2_with fail;refine(RE X HXP.o _).mono ?_;rintro e _ ⟨rfl,rfl⟩;go_wp2_with fail;refine cto (Nt X _ Y1.o af af) fun w1 e1=>?_
 have aD:Hid (Ext w w1):=ai ((Ext.refl w).trans e1);clear e1;go_wp2_with fail;refine cto (N2 r X qM.o _ (HG.o.ext aD.o) H0.o H1.o) fun w2 e2=>?_
 have aM:=ai (aD.o.trans e2);clear e2;go_wp2_with fail;refine cto (SC _ (HG.o.ext aM.o)) fun w3 e3=>?_
 have bA:=ai (aM.o.trans e3);clear e3;go_wp2_with fail;refine cto (SD (r:Int) (r:Int) X (by rw[← qM.o,Int.natCast_mul]) _ (HG.o.ext bA.o) yx.o yx.o af af) fun w4 e4=>?_
 have bO:=ai (bA.o.trans e4);clear e4;go_wp2_with fail;refine cto (SE _ (HG.o.ext bO.o)) fun w5 e5=>?_
 have cX:=ai (bO.o.trans e5);clear e5;go_wp2_with fail;refine(Xm (r:Int) _ yx.o af).mono ?_;rintro e _ ⟨rfl,rfl⟩;go_wp2;go_ret2;exact⟨rfl,cX.o⟩
theorem WC(v:V3)(X:Int)(e:eG v v=(X:Rat)){k:Nat}(w:World)(g:Gd w)(hv:VB k v)(hk:k<=200):Calls prog 263 #[.agg #[.string (qs v.x),.string (qs v.y),.string (qs v.z)],.agg #[.string (qs v.x),.string (qs v.y),.string (qs v.z)]] w (aZ w (.string (zs X))):=by
 have:=WD v v w g hv hv hk hk;unfold eG at e;rwa[e,qq] at this
theorem MO(r:Nat)(X:Int)(l:Rat)(e:((r*r:Nat):Int)=X)(hl:l=((r:Int):Rat))(w:World)(g:Gd w)(h0:0<r)(h1:r*r<1000000000):Calls prog 262 #[.string (zs X)] w (aZ w (.tuple #[.string (qs l),.bool true])):=by
 subst hl;rw[qq];exact RF r X e w g h0 h1
theorem Xc{l:Rat}{r:Nat}(hl:l=((r:Int):Rat))(h1:r*r<1000000000):QB 9 l:=by
 subst hl;exact QB.int ⟨by rw[Int.natAbs_natCast];have h2:=Nat.le_mul_self r;omega⟩ af
theorem MV(v:V3)(l:Rat)(r:Nat)(X:Int)(e:((r*r:Nat):Int)=X){k:Nat}(w:World)(g:Gd w)(h0:0<r)(h1:r*r<1000000000)(hv:VB k v)(hk:k<=40)(hd:eG v v=(X:Rat))(hl:l=((r:Int):Rat)):Calls prog 226 #[.agg #[.string (qs v.x),.string (qs v.y),.string (qs v.z)]] w (aZ w (.tuple #[.string (qs l),.int .i64 0])):=by
 have qM:=ai e;have H0:=ai h0;have H1:=ai h1;have HV:=ai hv;have HD:=ai hd;have HL:=ai hl;have HG:=ai g;clear e h0 h1 hv hd hl g;have HLB:=ai (Xc HL.o H1.o);go_enter func226,ntmps226;go_wp2_with fail;refine cto (yH v _ (HG.o.ext ((Ext.refl w).alloc _)) (HV.o.mono ae)) fun w1 e1=>?_
 have aD:Hid (Ext w w1):=ai (((Ext.refl w).alloc _).trans e1);have ax:Hid (ay w1 (w.heap.size) #[.string (qs v.x),.string (qs v.y),.string (qs v.z)] 67):=ai (ay.ext (ay.nw (#[.string (qs v.x),.string (qs v.y),.string (qs v.z)]) 67) e1);have aF:Hid (w.heap.size<=w.heap.size):=ai (Nat.le_refl _);clear e1;have aG:=ax.o.cell 0 rfl;have aI:=ax.o.cell 1 rfl;have aQ:=ax.o.cell 2 rfl;go_wp2_with fail;refine cto (WC v X HD.o _ (HG.o.ext aD.o) HV.o ae) fun w2 e2=>?_
 have aM:=ai (aD.o.trans e2);clear e2 aG aI aQ;go_wp2_with fail;refine cto (MO r X l qM.o HL.o _ (HG.o.ext aM.o) H0.o H1.o) fun w3 e3=>?_
 have bA:=ai (aM.o.trans e3);clear e3;go_wp2_with fail;refine cto (eQ (qs l) _ (HG.o.ext bA.o) ((HLB.o.mono (by decide):QB 200 l).len af) (gU (HLB.o.mono af))) fun w4 e4=>?_
 have bO:=ai (bA.o.trans e4);clear e4;go_wp2;go_ret2;exact⟨rfl,bO.o⟩
end Go.Proofs.YtmahadmefplbnaaGreatDoor
namespace Go.Proofs.YtmahadmefplbnaaGreatDoor
theorem f0:True:=by
 /- gF dN yH qu7 qu6 J6 zZ Mh FT Ab q8 mN MV bJ eC NI rL MS uX vof3_c F9 fe tv T3 TS T2 Vl VB PB V3 P2 vv pv VB.mono VB.ts VB.all PB.ts PB.all Aq -/
 trivial
