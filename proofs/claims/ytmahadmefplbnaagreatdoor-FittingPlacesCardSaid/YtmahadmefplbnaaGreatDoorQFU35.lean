/- Part 35. -/
import Derived.Test.YtmahadmefplbnaaGreatDoorQFUB
import Derived.Test.YtmahadmefplbnaaGreatDoorQFU32
import Derived.Test.YtmahadmefplbnaaGreatDoorQFU34
set_option maxRecDepth 100000
set_option maxHeartbeats 2000000
set_option linter.unusedSimpArgs false
set_option linter.unusedVariables false
namespace Go.Proofs.YtmahadmefplbnaaGreatDoor
open Go Go.RowKit
def mH (w:World) (vo:Option Addr) (n:Nat) (t:Nat->T3):Prop:=∀ i,i<n->∃ a o,vo=some ⟨a,o,none⟩/\w.cell? ⟨a,o+i*3,none⟩=some (.string (t i).x)/\w.cell? ⟨a,o+i*3+1,none⟩=some (.string (t i).y)/\w.cell? ⟨a,o+i*3+2,none⟩=some (.string (t i).z)
theorem mH.ext {w w':World} {vo:Option Addr} {n:Nat} {t:Nat->T3} (h:mH w vo n t) (e:Ext w w'):mH w' vo n t:=fun i hi=>let ⟨a,o,x,b,c,d⟩:=h i hi;⟨a,o,x,aw e b,aw e c,aw e d⟩
theorem mH.less {w:World} {vo:Option Addr} {n m:Nat} {t:Nat->T3} (h:mH w vo n t) (hm:m<=n):mH w vo m t:=fun i hi=>h i ae
def fz (c:Nat->Int):Nat->Int
 | 0=>0
 | n+1=>if fz c n≠0 then fz c n else c n
def fm (c:Nat->Int) (n:Nat):Int:=if n=0 then 13 else if 60<n then 4 else fz c n
theorem gV {c:Nat->Int}:∀ {n:Nat},(∀ i,i<n->c i=0)->fz c n=0
 | 0,_=>rfl
 | n+1,h=>by rw [fz,gV fun i hi=>h i ae,if_neg (fun e=>e rfl),h n ae]
theorem n9 {c:Nat->Int} {k:Nat}:∀ {n:Nat},k<n->(∀ i,i<k->c i=0)->c k≠0->fz c n=c k
 | n+1,hk,h,h0=>by
  by_cases e:k=n
  ·subst e;rw [fz,gV h,if_neg (fun e=>e rfl)]
  ·rw [fz,n9 ae h h0,if_pos h0]
theorem mw {c:Nat->Int} {k:Nat} (h:∀ i,i<k->c i=0) (h0:c k=0):∀ i,i<k+1->c i=0:=fun i hi=>by
 by_cases e:i=k
 ·rw [e,h0]
 ·exact h i ae
theorem ko {c:Nat->Int} {n:Nat} (h0:¬ n=0) (h6:¬ 60<n):fm c n=fz c n:=by rw [fm,if_neg h0,if_neg h6]
noncomputable def df (t:T3):Int:=if bQ t.l=0 then (if t.x=⟨#[48]⟩/\t.y=⟨#[48]⟩/\t.z=⟨#[48]⟩ then 17 else 0) else 2
theorem tR {a:ByteArray} (h:a=⟨#[48]⟩):a.toList=[48]:=by have:=jx h;simpa using this
theorem tQ {a:ByteArray} (h:¬ a=⟨#[48]⟩):¬ a.toList=[48]:=by have:=jv h;simpa using this
theorem pe {a:ByteArray} (h:a=⟨#[48]⟩):(a.toList == [48])=true:=by rw [tR h];rfl
theorem pd {a:ByteArray} (h:¬ a=⟨#[48]⟩):(a.toList == [48])=false:=beq_eq_false_iff_ne.2 (tQ h)
theorem qt (l:List ByteArray):bQ l=0∨bQ l=2:=by unfold bQ;split;exact Or.inl rfl;exact Or.inr rfl
theorem wP (ao_:Option Addr) (n cap fn:Nat) (cp:Array Value) (t:Nat->T3) (c:Nat->Int) (w:World) (hl:mH w ao_ n t) (hcl:∀ W,Ext w W->∀ k:Nat,k<n->Calls Tryz.prog fn (#[.agg #[.string (t k).x,.string (t k).y,.string (t k).z]] ++ cp) W (aC W (.int .i64 (c k)))) (hn:n<=1000000) (hcf:∀ a_ W,(callFunc fn a_).run Tryz.prog W = .ok (.enter fn a_) W):Calls Tryz.prog 99 #[.slice ao_ n cap,.func (.func fn) #[] cp] w (aC w (.int .i64 (fm c n))):=by
 have HL:=ai hl;have HCL:=ai hcl;clear hl hcl;go_enter Tryz.func99,Tryz.ntmps99;go_upto_region 1 with fail
 by_cases h0:n=0
 ·have hz2:((n:Nat):Int)=0:=ae;have hpf:fm c n=13:=by rw [fm,if_pos h0]
  have HPF:=ai hpf;clear hpf h0;go_wp2;go_ret;exact ⟨by rw [HPF.o];rfl,(Ext.refl w)⟩
 ·have hz2:¬ ((n:Nat):Int)=0:=ae;have HN0:=ai h0;go_upto_region 3 with fail
  by_cases h6:60<n
  ·have hz3:(60:Int)<((n:Nat):Int):=ae;have HPF:Hid (fm c n=4):=ai (by rw [fm,if_neg HN0.o,if_pos h6]);clear h6;go_wp2;go_ret;exact ⟨by rw [HPF.o];rfl,(Ext.refl w)⟩
  ·have hz3:¬ (60:Int)<((n:Nat):Int):=ae;have HPF:Hid (fm c n=fz c n):=ai (ko HN0.o h6);clear h6 hz2 h0;go_wp2_with fail;go_loopw [18] (fun x0_ wx=>∃ k:Nat,x0_ = .int .i64 k/\k<=n/\Hid (∀ i,i<k->c i=0)/\Hid (Ext w wx)) (fun x0_ _=>n-(intOf x0_).toNat)
   case atStart=>exact ⟨0,rfl,Nat.zero_le _,ai (fun i hi=>absurd hi (Nat.not_lt_zero i)),ai (Ext.refl w)⟩
   case round =>
    rename World=>w1
    obtain ⟨k,rfl,hkk,HGk,HH⟩:=hrel;have HX1:=ai HH.o;clear HH;by_cases hlt:k<n
    ·have hlt2:(k:Int)<((n:Nat):Int):=ae;obtain ⟨la,o_,rfl,zx_,zy_,zz_⟩:=HL.o k hlt;have HCx:=ai zx_;have HCy:=ai zy_;have HCz:=ai zz_;clear zx_ zy_ zz_;by_cases hi:c k=0
     ·have HIS:=ai hi;clear hi;have cl_o____k___3:=aw HX1.o (HCx.o);have cl_o____k___3___1:=aw HX1.o (HCy.o);have cl_o____k___3___2:=aw HX1.o (HCz.o);go_wp2_with fail;refine ((HIS.o▸HCL.o _ (HX1.o.alloc _) k hlt)).mono ?_;rintro e w2 ⟨rfl,e2⟩;have HX2:Hid (Ext w w2):=ai ((HX1.o.alloc _).trans e2);clear e2 cl_o____k___3 cl_o____k___3___1 cl_o____k___3___2;go_wp2_with fail;go_roundw
      case rel=>exact ⟨k+1,by go_num,ae,ai (mw HGk.o HIS.o),ai HX2.o⟩
      case measure=>simp [intOf];omega
     ·have hi2:¬ c k=0:=hi;have HNI:=ai hi;clear hi;have cl_o____k___3:=aw HX1.o (HCx.o);have cl_o____k___3___1:=aw HX1.o (HCy.o);have cl_o____k___3___2:=aw HX1.o (HCz.o);go_wp2_with fail;refine cto (HCL.o _ (HX1.o.alloc _) k hlt) fun w2 e2=>?_
      have HX2:Hid (Ext w w2):=ai ((HX1.o.alloc _).trans e2);clear e2 cl_o____k___3 cl_o____k___3___1 cl_o____k___3___2;go_wp2;go_ret;exact ⟨by rw [HPF.o,n9 hlt HGk.o HNI.o];rfl,HX2.o⟩
    ·have hk2:k=n:=ae;have hge:¬ (k:Int)<((n:Nat):Int):=ae;go_wp2;go_ret;exact ⟨by rw [HPF.o,gV (by rw [← hk2];exact HGk.o)];rfl,HX1.o⟩
theorem td (t:T3) (w:World) (g:Gd w) (hs:TS t):Calls Tryz.prog 92 #[.agg #[.string t.x,.string t.y,.string t.z]] w (aC w (.int .i64 (df t))):=by
 have HG:=ai g;have HS:=ai hs;clear g hs;go_enter Tryz.func92,Tryz.ntmps92;go_upto_region 1 with fail
 refine au (fun W=>Ext w W/\ak W (w.heap.size) (#[.string t.x,.string t.y,.string t.z]) 67) ⟨((Ext.refl w).alloc _),(ak.nw (#[.string t.x,.string t.y,.string t.z]) 67)⟩ ?_;rintro w1 ⟨e1,bB0_1⟩;have HX1:=ai e1;have HB0_1:=ai bB0_1;have HGEB0:Hid (w.heap.size<=w.heap.size):=ai (Nat.le_refl _);clear e1 bB0_1;rcases qt t.l with h|h
 ·have HT0:=ai h;clear h;by_cases hx_:t.x=⟨#[48]⟩
  ·have zx_:=jx hx_;have yx_:=tR hx_;have xx_:=pe hx_;by_cases hy_:t.y=⟨#[48]⟩
   ·have zy_:=jx hy_;have yy_:=tR hy_;have xy_:=pe hy_;by_cases hz_:t.z=⟨#[48]⟩
    ·have zz_:=jx hz_;have yz_:=tR hz_;have xz_:=pe hz_;have HPZ:Hid (df t=17):=ai (by rw [df,if_pos HT0.o,if_pos ⟨hx_,hy_,hz_⟩]);clear hx_ hy_ hz_;have c0_0:=HB0_1.o.cell 0 rfl;have c0_1:=HB0_1.o.cell 1 rfl;have c0_2:=HB0_1.o.cell 2 rfl;go_wp2_with fail;refine ((HT0.o▸du t _ (HG.o.ext (HX1.o)) HS.o)).mono ?_;rintro e w2 ⟨rfl,e2⟩;have HX2:=ai (HX1.o.trans e2);have HB0_2:=ai (HB0_1.o.ext e2);clear e2 c0_0 c0_1 c0_2;go_wp2_with fail;refine ax [.val (.agg #[.string t.x,.string t.y,.string t.z]),.val (.agg #[.string ⟨#[48]⟩,.string ⟨#[48]⟩,.string ⟨#[48]⟩]),.val (.bool true),.val (.bool true)] (fun L g W=>True) (S:=fun _=>False) ag ag ag (Mv.refl HX2.o (fun k h=>h.elim)) ?_ ?_ ?_ ?_ (fun gv_ w3 hm_ he_=>?_)
     ·exact fun _=>trivial
     ·exact fun _ _ _ _ h _=>h
     ·exact fun _ _ _ _ _ _ h=>h
     ·skip
      refine J4 (fun hs_=>hs_.is 1 (.pointer (some ⟨w.heap.size,0,none⟩))) (fun hs_=>(hs_.mv.ay HB0_2.o (fun h=>h)).cell 0 rfl) (fun hs_=>(hs_.mv.ay HB0_2.o (fun h=>h)).cell 1 rfl) (fun hs_=>(hs_.mv.ay HB0_2.o (fun h=>h)).cell 2 rfl) ?_;refine RV (fun A_ hs_ K_ hK_=>?_) ?_;· go_simp;refine (mM _ (HG.o.ext hs_.mv.ext)).mono ?_;rintro e W9_ ⟨rfl,e9_⟩;exact hK_.o _ e9_
      exact R2 0 1<|R1 2<|aA.nil
     simp only [dX,Ke.value,a7,Act.put,List.setIfInBounds_toArray,List.set_cons_zero,List.set_cons_succ];have HX3:Hid (Ext w w3):=ai hm_.ext;clear hm_ he_;go_wp2;go_ret;exact ⟨by rw [HPZ.o];rfl,HX3.o⟩
    ·have zz_:=jv hz_;have yz_:=tQ hz_;have xz_:=pd hz_;have HPZ:Hid (df t=0):=ai (by rw [df,if_pos HT0.o,if_neg (fun h=>hz_ h.2.2)]);clear hz_ hx_ hy_;have c0_0:=HB0_1.o.cell 0 rfl;have c0_1:=HB0_1.o.cell 1 rfl;have c0_2:=HB0_1.o.cell 2 rfl;go_wp2_with fail;refine ((HT0.o▸du t _ (HG.o.ext (HX1.o)) HS.o)).mono ?_;rintro e w2 ⟨rfl,e2⟩;have HX2:=ai (HX1.o.trans e2);have HB0_2:=ai (HB0_1.o.ext e2);clear e2 c0_0 c0_1 c0_2;go_wp2_with fail;refine ax [.val (.agg #[.string t.x,.string t.y,.string t.z]),.val (.agg #[.string ⟨#[48]⟩,.string ⟨#[48]⟩,.string ⟨#[48]⟩]),.val (.bool false),.val (.bool false)] (fun L g W=>True) (S:=fun _=>False) ag ag ag (Mv.refl HX2.o (fun k h=>h.elim)) ?_ ?_ ?_ ?_ (fun gv_ w3 hm_ he_=>?_)
     ·exact fun _=>trivial
     ·exact fun _ _ _ _ h _=>h
     ·exact fun _ _ _ _ _ _ h=>h
     ·skip
      refine J4 (fun hs_=>hs_.is 1 (.pointer (some ⟨w.heap.size,0,none⟩))) (fun hs_=>(hs_.mv.ay HB0_2.o (fun h=>h)).cell 0 rfl) (fun hs_=>(hs_.mv.ay HB0_2.o (fun h=>h)).cell 1 rfl) (fun hs_=>(hs_.mv.ay HB0_2.o (fun h=>h)).cell 2 rfl) ?_;refine RV (fun A_ hs_ K_ hK_=>?_) ?_;· go_simp;refine (mM _ (HG.o.ext hs_.mv.ext)).mono ?_;rintro e W9_ ⟨rfl,e9_⟩;exact hK_.o _ e9_
      exact R2 0 1<|R1 2<|aA.nil
     simp only [dX,Ke.value,a7,Act.put,List.setIfInBounds_toArray,List.set_cons_zero,List.set_cons_succ];have HX3:Hid (Ext w w3):=ai hm_.ext;clear hm_ he_;go_wp2;go_ret;exact ⟨by rw [HPZ.o];rfl,HX3.o⟩
   ·have zy_:=jv hy_;have yy_:=tQ hy_;have xy_:=pd hy_;have HPZ:Hid (df t=0):=ai (by rw [df,if_pos HT0.o,if_neg (fun h=>hy_ h.2.1)]);clear hy_ hx_;have c0_0:=HB0_1.o.cell 0 rfl;have c0_1:=HB0_1.o.cell 1 rfl;have c0_2:=HB0_1.o.cell 2 rfl;go_wp2_with fail;refine ((HT0.o▸du t _ (HG.o.ext (HX1.o)) HS.o)).mono ?_;rintro e w2 ⟨rfl,e2⟩;have HX2:=ai (HX1.o.trans e2);have HB0_2:=ai (HB0_1.o.ext e2);clear e2 c0_0 c0_1 c0_2;go_wp2_with fail;refine ax [.val (.agg #[.string t.x,.string t.y,.string t.z]),.val (.agg #[.string ⟨#[48]⟩,.string ⟨#[48]⟩,.string ⟨#[48]⟩]),.val (.bool false),.val (.bool false)] (fun L g W=>True) (S:=fun _=>False) ag ag ag (Mv.refl HX2.o (fun k h=>h.elim)) ?_ ?_ ?_ ?_ (fun gv_ w3 hm_ he_=>?_)
    ·exact fun _=>trivial
    ·exact fun _ _ _ _ h _=>h
    ·exact fun _ _ _ _ _ _ h=>h
    ·skip
     refine J4 (fun hs_=>hs_.is 1 (.pointer (some ⟨w.heap.size,0,none⟩))) (fun hs_=>(hs_.mv.ay HB0_2.o (fun h=>h)).cell 0 rfl) (fun hs_=>(hs_.mv.ay HB0_2.o (fun h=>h)).cell 1 rfl) (fun hs_=>(hs_.mv.ay HB0_2.o (fun h=>h)).cell 2 rfl) ?_;refine RV (fun A_ hs_ K_ hK_=>?_) ?_;· go_simp;refine (mM _ (HG.o.ext hs_.mv.ext)).mono ?_;rintro e W9_ ⟨rfl,e9_⟩;exact hK_.o _ e9_
     exact R2 0 1<|R1 2<|aA.nil
    simp only [dX,Ke.value,a7,Act.put,List.setIfInBounds_toArray,List.set_cons_zero,List.set_cons_succ];have HX3:Hid (Ext w w3):=ai hm_.ext;clear hm_ he_;go_wp2;go_ret;exact ⟨by rw [HPZ.o];rfl,HX3.o⟩
  ·have zx_:=jv hx_;have yx_:=tQ hx_;have xx_:=pd hx_;have HPZ:Hid (df t=0):=ai (by rw [df,if_pos HT0.o,if_neg (fun h=>hx_ h.1)]);clear hx_;have c0_0:=HB0_1.o.cell 0 rfl;have c0_1:=HB0_1.o.cell 1 rfl;have c0_2:=HB0_1.o.cell 2 rfl;go_wp2_with fail;refine ((HT0.o▸du t _ (HG.o.ext (HX1.o)) HS.o)).mono ?_;rintro e w2 ⟨rfl,e2⟩;have HX2:=ai (HX1.o.trans e2);have HB0_2:=ai (HB0_1.o.ext e2);clear e2 c0_0 c0_1 c0_2;go_wp2_with fail;refine ax [.val (.agg #[.string t.x,.string t.y,.string t.z]),.val (.agg #[.string ⟨#[48]⟩,.string ⟨#[48]⟩,.string ⟨#[48]⟩]),.val (.bool false),.val (.bool false)] (fun L g W=>True) (S:=fun _=>False) ag ag ag (Mv.refl HX2.o (fun k h=>h.elim)) ?_ ?_ ?_ ?_ (fun gv_ w3 hm_ he_=>?_)
   ·exact fun _=>trivial
   ·exact fun _ _ _ _ h _=>h
   ·exact fun _ _ _ _ _ _ h=>h
   ·skip
    refine J4 (fun hs_=>hs_.is 1 (.pointer (some ⟨w.heap.size,0,none⟩))) (fun hs_=>(hs_.mv.ay HB0_2.o (fun h=>h)).cell 0 rfl) (fun hs_=>(hs_.mv.ay HB0_2.o (fun h=>h)).cell 1 rfl) (fun hs_=>(hs_.mv.ay HB0_2.o (fun h=>h)).cell 2 rfl) ?_;refine RV (fun A_ hs_ K_ hK_=>?_) ?_;· go_simp;refine (mM _ (HG.o.ext hs_.mv.ext)).mono ?_;rintro e W9_ ⟨rfl,e9_⟩;exact hK_.o _ e9_
    exact R2 0 1<|R1 2<|aA.nil
   simp only [dX,Ke.value,a7,Act.put,List.setIfInBounds_toArray,List.set_cons_zero,List.set_cons_succ];have HX3:Hid (Ext w w3):=ai hm_.ext;clear hm_ he_;go_wp2;go_ret;exact ⟨by rw [HPZ.o];rfl,HX3.o⟩
 ·have HT0:=ai h;clear h;have c0_0:=HB0_1.o.cell 0 rfl;have c0_1:=HB0_1.o.cell 1 rfl;have c0_2:=HB0_1.o.cell 2 rfl;go_wp2_with fail;refine ((HT0.o▸du t _ (HG.o.ext (HX1.o)) HS.o)).mono ?_;rintro e w2 ⟨rfl,e2⟩;have HX2:=ai (HX1.o.trans e2);have HB0_2:=ai (HB0_1.o.ext e2);clear e2 c0_0 c0_1 c0_2;go_wp2;go_ret;exact ⟨by rw [df,if_neg (by rw [HT0.o];decide)];rfl,HX2.o⟩
theorem uR (t:T3) (w:World) (g:Gd w) (hs:TS t):Calls Tryz.prog 162 #[.agg #[.string t.x,.string t.y,.string t.z]] w (aC w (.int .i64 (bQ t.l))):=by
 have HG:=ai g;have HS:=ai hs;clear g hs;go_enter Tryz.func162,Tryz.ntmps162;go_wp2_with fail;refine cto (du t _ (HG.o.ext (((Ext.refl w).alloc _))) HS.o) fun w1 e1=>?_
 have HX1:Hid (Ext w w1):=ai (((Ext.refl w).alloc _).trans e1);clear e1;go_wp2;go_ret;exact ⟨rfl,HX1.o⟩
def vt (v:V3):T3:=⟨qs v.x,qs v.y,qs v.z⟩
def lT (w:World) (vo:Option Addr) (n:Nat) (p:Nat->V3):Prop:=mH w vo n (fun i=>vt (p i))
theorem lT.ext {w w':World} {vo:Option Addr} {n:Nat} {p:Nat->V3} (h:lT w vo n p) (e:Ext w w'):lT w' vo n p:=mH.ext h e
section
variable {X w W W':World} {n k b:Nat} {p:Nat->V3}
theorem EJ {t:TypeId} {a0 a1 a2 a3:Value} {G:Nat->Value} (hk:X.heap.size<=b) (h:ak W b #[a0,a1,a2,a3] t) (e0:a0=G 0) (e1:a1=G 1) (e2:a2=G 2) (e3:a3=G 3):bV X W t 1 (.slice (some ⟨b,0,none⟩) 4 4) 4 G :=
 Or.inr ⟨b,4,_,rfl,hk,h,Nat.le_refl _,af,rfl,fun i hi=>by
  rcases Gk (by omega:i<4) with rfl|rfl|rfl|rfl
  ·rw [← e0];rfl
  ·rw [← e1];rfl
  ·rw [← e2];rfl
  ·rw [← e3];rfl⟩
theorem Fv (hk:X.heap.size<=b) (h:ak W b #[.string (qs (-(p k).x)),.string (qs (-(p k).y)),.string ⟨#[45,49]⟩,.string ⟨#[45,49]⟩] 34):bV X W 34 1 (.slice (some ⟨b,0,none⟩) 4 4) 4 (fun j => .string (qs ((bO n p).A (2*k) j))) :=
 EJ hk h (by simp only [lk,nW]) (by simp only [lk,nV]) (by simp only [lk,nU,lG]) (by simp only [lk,lf,lG])
theorem Fu (hk:X.heap.size<=b) (h:ak W b #[.string (qs (p k).x),.string (qs (p k).y),.string ⟨#[49]⟩,.string ⟨#[45,49]⟩] 34):bV X W 34 1 (.slice (some ⟨b,0,none⟩) 4 4) 4 (fun j => .string (qs ((bO n p).A (2*k+1) j))) :=
 EJ hk h (by simp only [lj,nW]) (by simp only [lj,nV]) (by simp only [lj,nU,jE]) (by simp only [lj,lf,lG])
theorem Fw (hk:X.heap.size<=b) (h:ak W b #[.string ⟨#[48]⟩,.string ⟨#[48]⟩,.string ⟨#[48]⟩,.string ⟨#[49]⟩] 34):bV X W 34 1 (.slice (some ⟨b,0,none⟩) 4 4) 4 (fun j => .string (qs ((bO n p).C j))) :=
 EJ hk h (by simp only [bO,nW,bX]) (by simp only [bO,nV,bX]) (by simp only [bO,nU,bX]) (by simp only [bO,lf,jE])
def h4 (a0 a1 a2 a3:Value) (i:Nat):Value:=if i=0 then a0 else if i=1 then a1 else if i=2 then a2 else a3
def v2 (vf:Nat->Value) (k:Nat) (x y:Value) (i:Nat):Value:=if i=k then x else if i=k+1 then y else vf i
theorem G8 {t:TypeId} {a0 a1 a2 a3:Value} (h:ak w b #[a0,a1,a2,a3] t):∀ j,j<2*2->w.cell? ((⟨b,0,none⟩:Addr).add j)=some (h4 a0 a1 a2 a3 j):=fun j hj=>by
 rcases Gk hj with rfl|rfl|rfl|rfl <;> exact fV h rfl
theorem Hh {a0 a1 a2 a3:Value} (h0:a0.oneCell'=true) (h1:a1.oneCell'=true) (h2:a2.oneCell'=true) (h3:a3.oneCell'=true):∀ j,j<2*2->(h4 a0 a1 a2 a3 j).oneCell'=true:=fun j hj=>by
 rcases Gk hj with rfl|rfl|rfl|rfl
 ·exact h0
 ·exact h1
 ·exact h2
 ·exact h3
theorem MR.Gf {n k:Nat} {vr vo vr' x y a b:Value} {RG C vf:Nat->Value} {F:Nat->Nat->Value} (h:MR w n k vr vo RG C vf F W) (hA:App w W 97 2 vr k 2 RG (h4 x a y b) vr' W') (hx:bV w W 34 1 x n (F k)) (hy:bV w W 34 1 y n (F (k+1))) :
    MR w n (k+2) vr' vo (app (k*2) RG (h4 x a y b)) C (v2 vf k x y) F W':=by
 refine ⟨hA.own,h.obj.mv hA.mv (fun q hq hv=>(h.rows.apart h.obj af) q hv hq),fun i hi=>?_⟩;unfold v2;split
 ·rename_i e;rw [e];exact hx.mv hA.mv (fun q hq hv=>(h.rows.apart hx af) q hv hq)
 ·split
  ·rename_i e;rw [e];exact hy.mv hA.mv (fun q hq hv=>(h.rows.apart hy af) q hv hq)
  ·exact (h.mC i ae).mv hA.mv (fun q hq hv=>(h.rows.apart (h.mC i ae) af) q hv hq)
theorem zA {RG vf G:Nat->Value} {x y a b:Value} (h:∀ i,i<k->RG (i*2)=vf i/\RG (i*2+1)=G i) (ha:a=G k) (hb:b=G (k+1)) :
    ∀ i,i<k+2->app (k*2) RG (h4 x a y b) (i*2)=v2 vf k x y i/\app (k*2) RG (h4 x a y b) (i*2+1)=G i:=fun i hi=>by
 by_cases e:i=k
 ·subst e;rw [en ae,en ae,v2,if_pos rfl,show i*2-i*2=0 by omega,show i*2+1-i*2=1 by omega];exact ⟨rfl,ha⟩
 ·by_cases e2:i=k+1
  ·subst e2;rw [en ae,en ae,v2,if_neg e,if_pos rfl,show (k+1)*2-k*2=2 by omega,show (k+1)*2+1-k*2=3 by omega];exact ⟨rfl,hb⟩
  ·rw [fN ae,fN ae,v2,if_neg e,if_neg e2];exact h i ae
end
theorem CV (vo:Option Addr) (n cap:Nat) (p:Nat->V3) (w:World) (g:Gd w) (hl:lT w vo n p) (hq:∀ i,i<n->VB 1 (p i)) (hn:n<=60):Calls Tryz.prog 84 #[.slice vo n cap] w (Iv (bO n p) w):=by
 have HG:=ai g;have HL:=ai hl;have HQ:=ai hq;clear g hl hq;go_enter Tryz.func84,Tryz.ntmps84;go_wp2_with fail;refine au (fun W=>Ext w W/\ak W (w.heap.size) (#[.int .i64 0,.slice none 0 0,.slice none 0 0]) 32/\ak W (w.heap.size+1) (#[.string ⟨#[48]⟩,.string ⟨#[48]⟩,.string ⟨#[48]⟩,.string ⟨#[49]⟩]) 34/\ak W (w.heap.size+1+1) (#[.int .i64 4,.slice none 0 0,.slice (some ⟨w.heap.size+1,0,none⟩) 4 4]) 32) ⟨((((Ext.refl w).alloc _).alloc _).alloc _),(((ak.nw (#[.int .i64 0,.slice none 0 0,.slice none 0 0]) 32).alloc _).alloc _),((ak.nw (#[.string ⟨#[48]⟩,.string ⟨#[48]⟩,.string ⟨#[48]⟩,.string ⟨#[49]⟩]) 34).alloc _),(ak.nw (#[.int .i64 4,.slice none 0 0,.slice (some ⟨w.heap.size+1,0,none⟩) 4 4]) 32)⟩ ?_;rintro w1 ⟨e1,bB0_1,bB1_1,bB2_1⟩;have HX1:=ai e1;have HB0_1:=ai bB0_1;have HB1_1:=ai bB1_1;have HB2_1:=ai bB2_1;have HGEB0:Hid (w.heap.size<=w.heap.size):=ai (Nat.le_refl _);have HGEB1:Hid (w.heap.size<=w.heap.size+1):=ai ae;have HGEB2:Hid (w.heap.size<=w.heap.size+1+1):=ai ae;clear e1 bB0_1 bB1_1 bB2_1;have HVOx:Hid (bV w w1 34 1 (.slice (some ⟨w.heap.size+1,0,none⟩) 4 4) 4 (fun j => .string (qs ((bO n p).C j)))):=ai (Fw HGEB1.o HB1_1.o);go_wp2_with fail;go_loopw [10] (fun x0_ wx=>∃ k:Nat,x0_ = .int .i64 k/\k<=n/\Hid (Ext w wx/\ak wx (w.heap.size) (#[.int .i64 0,.slice none 0 0,.slice none 0 0]) 32/\(∃ vr RG vf,ak wx (w.heap.size+1+1) #[.int .i64 4,vr,.slice (some ⟨w.heap.size+1,0,none⟩) 4 4] 32/\MR w 4 (2*k) vr (.slice (some ⟨w.heap.size+1,0,none⟩) 4 4) RG (fun j => .string (qs ((bO n p).C j))) vf (fun i j => .string (qs ((bO n p).A i j))) wx/\∀ i,i<2*k->RG (i*2)=vf i/\RG (i*2+1)=(fun i => .string (qs ((bO n p).B i))) i))) (fun x0_ _=>n-(intOf x0_).toNat)
 case atStart=>exact ⟨0,rfl,Nat.zero_le _,ai ⟨HX1.o,HB0_1.o,⟨_,fun _ => .slice none 0 0,fun _ => .slice none 0 0,HB2_1.o,⟨bV.nil _ _ _ _ _,HVOx.o,fun i hi=>absurd hi (Nat.not_lt_zero i)⟩,fun i hi=>absurd hi (Nat.not_lt_zero i)⟩⟩⟩
 case round =>
  rename World=>w2
  obtain ⟨k,rfl,hkk,HH⟩:=hrel;have HX2:=ai HH.o.1;have HB0_2:=ai HH.o.2.1;obtain ⟨vr,RG,vf,a1_,a2_,a3_⟩:=HH.o.2.2;obtain ⟨la,rc,rfl⟩:=a2_.rows.FX;have HB2_2:=ai a1_;have HMR_2:=ai a2_;have HRG:=ai a3_;clear a1_ a2_ a3_;clear HH;by_cases hlt:k<n
  ·have hlt2:(k:Int)<((n:Nat):Int):=ae;obtain ⟨la_,o_,rfl,zx_,zy_,zz_⟩:=HL.o k hlt;have HCx:Hid (w.cell? _=some (.string (qs (p k).x))):=ai zx_;have HCy:Hid (w.cell? _=some (.string (qs (p k).y))):=ai zy_;have HCz:Hid (w.cell? _=some (.string (qs (p k).z))):=ai zz_;clear zx_ zy_ zz_;have cl_o____k___3:=aw HX2.o (HCx.o);have cl_o____k___3___1:=aw HX2.o (HCy.o);have cl_o____k___3___2:=aw HX2.o (HCz.o);go_wp2_with fail;refine au (fun W=>Ext w W/\ak W (w.heap.size) (#[.int .i64 0,.slice none 0 0,.slice none 0 0]) 32/\ak W (w.heap.size+1+1) (#[.int .i64 4,.slice la (2*k) rc,.slice (some ⟨w.heap.size+1,0,none⟩) 4 4]) 32/\MR w 4 (2*k) (.slice la (2*k) rc) (.slice (some ⟨w.heap.size+1,0,none⟩) 4 4) RG (fun j => .string (qs ((bO n p).C j))) vf (fun i j => .string (qs ((bO n p).A i j))) W/\ak W (w2.heap.size) (#[.string (qs ((p k).x)),.string (qs ((p k).y)),.string (qs ((p k).z))]) 67) ⟨(HX2.o.alloc _),(HB0_2.o.alloc _),(HB2_2.o.alloc _),(HMR_2.o.alloc _),(ak.nw (#[.string (qs ((p k).x)),.string (qs ((p k).y)),.string (qs ((p k).z))]) 67)⟩ ?_;rintro w3 ⟨e3,bB0_3,bB2_3,bMR_3,bB3_3⟩;have HX3:=ai e3;have HB0_3:=ai bB0_3;have HB2_3:=ai bB2_3;have HMR_3:=ai bMR_3;have HB3_3:=ai bB3_3;have HGEB3:Hid (w.heap.size<=w2.heap.size):=ai (HX2.o.size);clear e3 bB0_3 bB2_3 bMR_3 bB3_3 cl_o____k___3 cl_o____k___3___1 cl_o____k___3___2;go_wp2_with fail;refine ax [.val (.pointer (some ⟨w.heap.size+1+1,1,none⟩)),.val (.slice la (2*k) rc),.val (.pointer (some ⟨w2.heap.size,0,none⟩)),.val (.string (qs ((p k).x))),.val (.string (qs (-(p k).x))),.val (.pointer (some ⟨w2.heap.size,1,none⟩)),.val (.string (qs ((p k).y))),.val (.string (qs (-(p k).y))),.bH,.val (.pointer (some ⟨w2.heap.size,2,none⟩)),.val (.string (qs ((p k).z))),.val (.string (qs (-(p k).z))),.bH,.val (.pointer (some ⟨w2.heap.size,0,none⟩)),.val (.string (qs ((p k).x))),.val (.pointer (some ⟨w2.heap.size,1,none⟩)),.val (.string (qs ((p k).y))),.bH,.val (.pointer (some ⟨w2.heap.size,2,none⟩)),.val (.string (qs ((p k).z))),.bH,.bH,.bH,.val (.pointer (some ⟨w.heap.size+1+1,1,none⟩)),.bH] (fun L g W=>(L 8=true->bV w W 34 1 (g 8) 4 ((fun i j => .string (qs ((bO n p).A i j))) (2*k)))/\(L 12=true->g 12 = .agg #[g 8,.string (qs (-(p k).z))])/\(L 17=true->bV w W 34 1 (g 17) 4 ((fun i j => .string (qs ((bO n p).A i j))) (2*k+1)))/\(L 20=true->g 20 = .agg #[g 17,.string (qs (p k).z)])/\(L 21=true->∃ b,g 21 = .slice (some ⟨b,0,none⟩) 2 2/\(L 22=false->ak W b #[g 8,.string (qs (-(p k).z)),g 17,.string (qs (p k).z)] 97))/\(if L 22=true then MR w 4 (2*k+2) (g 22) (.slice (some ⟨w.heap.size+1,0,none⟩) 4 4) (app (2*k*2) RG (h4 (g 8) (.string (qs (-(p k).z))) (g 17) (.string (qs (p k).z)))) (fun j => .string (qs ((bO n p).C j))) (v2 vf (2*k) (g 8) (g 17)) (fun i j => .string (qs ((bO n p).A i j))) W else MR w 4 (2*k) (.slice la (2*k) rc) (.slice (some ⟨w.heap.size+1,0,none⟩) 4 4) RG (fun j => .string (qs ((bO n p).C j))) vf (fun i j => .string (qs ((bO n p).A i j))) W)/\(if L 24=true then ak W (w.heap.size+1+1) #[.int .i64 4,g 22,.slice (some ⟨w.heap.size+1,0,none⟩) 4 4] 32 else ak W (w.heap.size+1+1) #[.int .i64 4,.slice la (2*k) rc,.slice (some ⟨w.heap.size+1,0,none⟩) 4 4] 32)) (S:=fun q=>ey (.slice la (2*k) rc) q∨q=w.heap.size+1+1) ag ag ag (Mv.refl HX3.o (fun q h=>h.elim (fun a=>(HMR_3.o.rows.lt a).1) (fun e=>e▸HGEB2.o))) ?_ ?_ ?_ ?_ (fun gv_ w4 hm_ he_=>?_)
   ·exact fun g=>⟨fun h=>absurd h af,fun h=>absurd h af,fun h=>absurd h af,fun h=>absurd h af,fun h=>absurd h af,(by rw [if_neg af];exact HMR_3.o.drew),(by rw [if_neg af];exact HB2_3.o.drew)⟩
   ·exact fun L g W W1 h e=>⟨fun a=>(h.1 a).ext e,h.2.1,fun a=>(h.2.2.1 a).ext e,h.2.2.2.1,fun a=>let ⟨b,x,y⟩:=h.2.2.2.2.1 a;⟨b,x,fun z=>(y z).ext e⟩,br h.2.2.2.2.2.1 (fun h=>h.ext e) (fun h=>h.ext e),br h.2.2.2.2.2.2 (fun h=>h.ext e) (fun h=>h.ext e)⟩
   ·intro i v L g W hi h;have n8_:i≠8:=fun e=>by subst e;exact absurd (show false=true from hi) af
    have n12_:i≠12:=fun e=>by subst e;exact absurd (show false=true from hi) af
    have n17_:i≠17:=fun e=>by subst e;exact absurd (show false=true from hi) af
    have n20_:i≠20:=fun e=>by subst e;exact absurd (show false=true from hi) af
    have n21_:i≠21:=fun e=>by subst e;exact absurd (show false=true from hi) af
    have n22_:i≠22:=fun e=>by subst e;exact absurd (show false=true from hi) af
    have n24_:i≠24:=fun e=>by subst e;exact absurd (show false=true from hi) af
    simp only [aq n8_,av n8_,aq n12_,av n12_,aq n17_,av n17_,aq n20_,av n20_,aq n21_,av n21_,aq n22_,av n22_,aq n24_,av n24_];exact h
   ·skip
    refine RI 3 (.pointer (some ⟨w.heap.size+1+1,0,none⟩)) ?_;refine RV (fun A_ hs_ K_ hK_=>?_) ?_;· have q14_:=hs_.val 0;have n_:=hs_.no 24 af ag;have ep_:=hs_.e.2.2.2.2.2.2;rw [if_neg (by rw [n_];decide)] at ep_;have cp_1:=ep_.cell 1 rfl;clear n_ ep_;go_simp;exact cd hK_
    refine RI 5 (.pointer (some ⟨w2.heap.size,0,none⟩))<|J2 (fun hs_=>hs_.val 2) (fun hs_=>(hs_.mv.ay HB3_3.o (fun h=>h.elim (HMR_3.o.rows.aP HB3_3.o af) (fun e=>(b7 HB3_3.o HB2_3.o af) e))).cell 0 rfl)<|K1 (fun hs_=>hs_.val 3) (fun _=>cO (p k).x _ (HQ.o k hlt).x af)<|RI 5 (.pointer (some ⟨w2.heap.size,0,none⟩))<|J2 (fun hs_=>hs_.val 5) (fun hs_=>(hs_.mv.ay HB3_3.o (fun h=>h.elim (HMR_3.o.rows.aP HB3_3.o af) (fun e=>(b7 HB3_3.o HB2_3.o af) e))).cell 1 rfl)<|K1 (fun hs_=>hs_.val 6) (fun _=>cO (p k).y _ (HQ.o k hlt).y af) ?_;refine aA.cons (fun L_ g_ A_ W_ hs_=>?_) ?_
    ·have q18_:=hs_.val 4;have q21_:=hs_.val 7;refine dH.bH fun K_ hK_=>?_;have n12_:=hs_.no 12 af ag;have n21_:=hs_.no 21 af ag;have n22_:=hs_.no 22 af ag;have n24_:=hs_.no 24 af ag;have n8_:=hs_.not;have e_:=hs_.e;simp only [n12_,n21_,n22_,n24_,n8_,aj,if_false,if_true] at e_;have HN_:=ai (And.intro n12_ (And.intro n21_ (And.intro n22_ (n24_))));clear n12_ n21_ n22_ n24_ n8_;have HE_:=ai e_;have HM_:=ai hs_.mv;clear e_;go_simp;exact hK_.o _ _ (HM_.o.alloc _) (by simp only [aY,cr,aq (show (8:Nat)≠12 by decide),av (show (8:Nat)≠12 by decide),aq (show (8:Nat)≠17 by decide),av (show (8:Nat)≠17 by decide),aq (show (8:Nat)≠20 by decide),av (show (8:Nat)≠20 by decide),aq (show (8:Nat)≠21 by decide),av (show (8:Nat)≠21 by decide),aq (show (8:Nat)≠22 by decide),av (show (8:Nat)≠22 by decide),aq (show (8:Nat)≠24 by decide),av (show (8:Nat)≠24 by decide),HN_.o.1,HN_.o.2.1,HN_.o.2.2.1,HN_.o.2.2.2,aj,if_false,if_true];exact ⟨fun _=>Fv HM_.o.ext.size (ak.new _ _ _),(fun h=>by cases h),fun a=>(HE_.o.2.2.1 a).alloc _,HE_.o.2.2.2.1,(fun h=>by cases h),HE_.o.2.2.2.2.2.1.alloc _,HE_.o.2.2.2.2.2.2.alloc _⟩)
    refine RI 5 (.pointer (some ⟨w2.heap.size,0,none⟩))<|J2 (fun hs_=>hs_.val 9) (fun hs_=>(hs_.mv.ay HB3_3.o (fun h=>h.elim (HMR_3.o.rows.aP HB3_3.o af) (fun e=>(b7 HB3_3.o HB2_3.o af) e))).cell 2 rfl)<|K1 (fun hs_=>hs_.val 10) (fun _=>cO (p k).z _ (HQ.o k hlt).z af) ?_;refine aA.cons (fun L_ g_ A_ W_ hs_=>?_) ?_
    ·have q22_:=hs_.bH 8;have q25_:=hs_.val 11;refine dH.bH fun K_ hK_=>?_;have y8_:=hs_.yes 8 ag;have n21_:=hs_.no 21 af ag;have n22_:=hs_.no 22 af ag;have n24_:=hs_.no 24 af ag;have n12_:=hs_.not;have e_:=hs_.e;simp only [y8_,n21_,n22_,n24_,n12_,aj,if_false,if_true] at e_;obtain ⟨a8_,c8_,es8_⟩:=(e_.1 trivial).FX;rw [es8_] at e_ q22_;have HES:=ai es8_;clear es8_;have HN_:=ai (And.intro y8_ (And.intro n21_ (And.intro n22_ (n24_))));clear y8_ n21_ n22_ n24_ n12_;have HE_:=ai e_;have HM_:=ai hs_.mv;clear e_;go_simp;exact hK_.o _ _ HM_.o (by simp only [aY,cr,aq (show (12:Nat)≠8 by decide),av (show (12:Nat)≠8 by decide),aq (show (12:Nat)≠17 by decide),av (show (12:Nat)≠17 by decide),aq (show (12:Nat)≠20 by decide),av (show (12:Nat)≠20 by decide),aq (show (12:Nat)≠21 by decide),av (show (12:Nat)≠21 by decide),aq (show (12:Nat)≠22 by decide),av (show (12:Nat)≠22 by decide),aq (show (12:Nat)≠24 by decide),av (show (12:Nat)≠24 by decide),HN_.o.1,HN_.o.2.1,HN_.o.2.2.1,HN_.o.2.2.2,HES.o,aj,if_false,if_true];exact ⟨fun _=>HE_.o.1 trivial,fun _=>by first|rfl|trivial,HE_.o.2.2.1,HE_.o.2.2.2.1,(fun h=>by cases h),HE_.o.2.2.2.2.2.1,HE_.o.2.2.2.2.2.2⟩)
    refine RI 5 (.pointer (some ⟨w2.heap.size,0,none⟩))<|J2 (fun hs_=>hs_.val 13) (fun hs_=>(hs_.mv.ay HB3_3.o (fun h=>h.elim (HMR_3.o.rows.aP HB3_3.o af) (fun e=>(b7 HB3_3.o HB2_3.o af) e))).cell 0 rfl)<|RI 5 (.pointer (some ⟨w2.heap.size,0,none⟩))<|J2 (fun hs_=>hs_.val 15) (fun hs_=>(hs_.mv.ay HB3_3.o (fun h=>h.elim (HMR_3.o.rows.aP HB3_3.o af) (fun e=>(b7 HB3_3.o HB2_3.o af) e))).cell 1 rfl) ?_;refine aA.cons (fun L_ g_ A_ W_ hs_=>?_) ?_
    ·have q28_:=hs_.val 14;have q30_:=hs_.val 16;refine dH.bH fun K_ hK_=>?_;have n20_:=hs_.no 20 af ag;have n21_:=hs_.no 21 af ag;have n22_:=hs_.no 22 af ag;have n24_:=hs_.no 24 af ag;have n17_:=hs_.not;have e_:=hs_.e;simp only [n20_,n21_,n22_,n24_,n17_,aj,if_false,if_true] at e_;have HN_:=ai (And.intro n20_ (And.intro n21_ (And.intro n22_ (n24_))));clear n20_ n21_ n22_ n24_ n17_;have HE_:=ai e_;have HM_:=ai hs_.mv;clear e_;go_simp;exact hK_.o _ _ (HM_.o.alloc _) (by simp only [aY,cr,aq (show (17:Nat)≠8 by decide),av (show (17:Nat)≠8 by decide),aq (show (17:Nat)≠12 by decide),av (show (17:Nat)≠12 by decide),aq (show (17:Nat)≠20 by decide),av (show (17:Nat)≠20 by decide),aq (show (17:Nat)≠21 by decide),av (show (17:Nat)≠21 by decide),aq (show (17:Nat)≠22 by decide),av (show (17:Nat)≠22 by decide),aq (show (17:Nat)≠24 by decide),av (show (17:Nat)≠24 by decide),HN_.o.1,HN_.o.2.1,HN_.o.2.2.1,HN_.o.2.2.2,aj,if_false,if_true];exact ⟨fun a=>(HE_.o.1 a).alloc _,HE_.o.2.1,fun _=>Fu HM_.o.ext.size (ak.new _ _ _),(fun h=>by cases h),(fun h=>by cases h),HE_.o.2.2.2.2.2.1.alloc _,HE_.o.2.2.2.2.2.2.alloc _⟩)
    refine RI 5 (.pointer (some ⟨w2.heap.size,0,none⟩))<|J2 (fun hs_=>hs_.val 18) (fun hs_=>(hs_.mv.ay HB3_3.o (fun h=>h.elim (HMR_3.o.rows.aP HB3_3.o af) (fun e=>(b7 HB3_3.o HB2_3.o af) e))).cell 2 rfl) ?_;refine aA.cons (fun L_ g_ A_ W_ hs_=>?_) ?_
    ·have q31_:=hs_.bH 17;have q33_:=hs_.val 19;refine dH.bH fun K_ hK_=>?_;have y17_:=hs_.yes 17 ag;have n21_:=hs_.no 21 af ag;have n22_:=hs_.no 22 af ag;have n24_:=hs_.no 24 af ag;have n20_:=hs_.not;have e_:=hs_.e;simp only [y17_,n21_,n22_,n24_,n20_,aj,if_false,if_true] at e_;obtain ⟨a17_,c17_,es17_⟩:=(e_.2.2.1 trivial).FX;rw [es17_] at e_ q31_;have HES:=ai es17_;clear es17_;have HN_:=ai (And.intro y17_ (And.intro n21_ (And.intro n22_ (n24_))));clear y17_ n21_ n22_ n24_ n20_;have HE_:=ai e_;have HM_:=ai hs_.mv;clear e_;go_simp;exact hK_.o _ _ HM_.o (by simp only [aY,cr,aq (show (20:Nat)≠8 by decide),av (show (20:Nat)≠8 by decide),aq (show (20:Nat)≠12 by decide),av (show (20:Nat)≠12 by decide),aq (show (20:Nat)≠17 by decide),av (show (20:Nat)≠17 by decide),aq (show (20:Nat)≠21 by decide),av (show (20:Nat)≠21 by decide),aq (show (20:Nat)≠22 by decide),av (show (20:Nat)≠22 by decide),aq (show (20:Nat)≠24 by decide),av (show (20:Nat)≠24 by decide),HN_.o.1,HN_.o.2.1,HN_.o.2.2.1,HN_.o.2.2.2,HES.o,aj,if_false,if_true];exact ⟨HE_.o.1,HE_.o.2.1,fun _=>HE_.o.2.2.1 trivial,fun _=>by first|rfl|trivial,(fun h=>by cases h),HE_.o.2.2.2.2.2.1,HE_.o.2.2.2.2.2.2⟩)
    refine aA.cons (fun L_ g_ A_ W_ hs_=>?_) ?_
    ·have q26_:=hs_.bH 12;have q34_:=hs_.bH 20;refine dH.bH fun K_ hK_=>?_;have y8_:=hs_.yes 8 ag;have y12_:=hs_.yes 12 ag;have y17_:=hs_.yes 17 ag;have y20_:=hs_.yes 20 ag;have n22_:=hs_.no 22 af ag;have n24_:=hs_.no 24 af ag;have n21_:=hs_.not;have e_:=hs_.e;simp only [y8_,y12_,y17_,y20_,n22_,n24_,n21_,aj,if_false,if_true] at e_;obtain ⟨a8_,c8_,es8_⟩:=(e_.1 trivial).FX;obtain ⟨a17_,c17_,es17_⟩:=(e_.2.2.1 trivial).FX;have e12_:=e_.2.1 trivial;have e20_:=e_.2.2.2.1 trivial;rw [e12_] at q26_;rw [e20_] at q34_;rw [es8_,es17_] at e_;rw [es8_] at q26_;rw [es17_] at q34_;have HES:=ai es8_;have HES2:=ai es17_;clear es8_ es17_ e12_ e20_;have HN_:=ai (And.intro y8_ (And.intro y12_ (And.intro y17_ (And.intro y20_ (And.intro n22_ (n24_))))));clear y8_ y12_ y17_ y20_ n22_ n24_ n21_;have HE_:=ai e_;have HM_:=ai hs_.mv;clear e_;go_simp;exact hK_.o _ _ (HM_.o.alloc _) (by simp only [aY,cr,aq (show (21:Nat)≠8 by decide),av (show (21:Nat)≠8 by decide),aq (show (21:Nat)≠12 by decide),av (show (21:Nat)≠12 by decide),aq (show (21:Nat)≠17 by decide),av (show (21:Nat)≠17 by decide),aq (show (21:Nat)≠20 by decide),av (show (21:Nat)≠20 by decide),aq (show (21:Nat)≠22 by decide),av (show (21:Nat)≠22 by decide),aq (show (21:Nat)≠24 by decide),av (show (21:Nat)≠24 by decide),HN_.o.1,HN_.o.2.1,HN_.o.2.2.1,HN_.o.2.2.2.1,HN_.o.2.2.2.2.1,HN_.o.2.2.2.2.2,HES.o,HES2.o,aj,if_false,if_true];exact ⟨fun _=>(HE_.o.1 trivial).alloc _,fun _=>HE_.o.2.1 trivial,fun _=>(HE_.o.2.2.1 trivial).alloc _,fun _=>HE_.o.2.2.2.1 trivial,fun _=>⟨_,rfl,fun _=>ak.new _ _ _⟩,HE_.o.2.2.2.2.2.1.alloc _,HE_.o.2.2.2.2.2.2.alloc _⟩)
    refine aA.cons (fun L_ g_ A_ W_ hs_=>?_) ?_
    ·have q15_:=hs_.val 1;have q35_:=hs_.bH 21;refine dH.bH fun K_ hK_=>?_;have y8_:=hs_.yes 8 ag;have y12_:=hs_.yes 12 ag;have y17_:=hs_.yes 17 ag;have y20_:=hs_.yes 20 ag;have y21_:=hs_.yes 21 ag;have n24_:=hs_.no 24 af ag;have n22_:=hs_.not;have e_:=hs_.e;simp only [y8_,y12_,y17_,y20_,y21_,n24_,n22_,aj,if_false,if_true] at e_;obtain ⟨b_,g_eq,hb_⟩:=e_.2.2.2.2.1 trivial;rw [g_eq] at q35_;have HG_:=ai g_eq;have HB_:=ai (hb_ trivial);clear g_eq hb_;have HN_:=ai (And.intro y8_ (And.intro y12_ (And.intro y17_ (And.intro y20_ (And.intro y21_ (n24_))))));clear y8_ y12_ y17_ y20_ y21_ n24_ n22_;have HE_:=ai e_;have HM_:=ai hs_.mv;clear e_;refine fA (X:=w) (H:=(h4 (g_ 8) (.string (qs (-(p k).z))) (g_ 17) (.string (qs (p k).z)))) (ad:=⟨b_,0,none⟩) (m:=2) (c:=2) (v:=(.slice la (2*k) rc)) rfl (by go_simp) (by go_simp) BE Fb rfl HM_.o.ext HE_.o.2.2.2.2.2.1.rows (fun _=>af) (G8 HB_.o) (Hh (HE_.o.1 trivial).one rfl (HE_.o.2.2.1 trivial).one rfl) (by unfold maxLen;omega) ae (fun v_ W9_ hA_=>?_);exact hK_.o v_ W9_ (HM_.o.comp hA_.mv (fun q h=>Or.inl (Or.inl h))) (by simp only [aY,cr,aq (show (22:Nat)≠8 by decide),av (show (22:Nat)≠8 by decide),aq (show (22:Nat)≠12 by decide),av (show (22:Nat)≠12 by decide),aq (show (22:Nat)≠17 by decide),av (show (22:Nat)≠17 by decide),aq (show (22:Nat)≠20 by decide),av (show (22:Nat)≠20 by decide),aq (show (22:Nat)≠21 by decide),av (show (22:Nat)≠21 by decide),aq (show (22:Nat)≠24 by decide),av (show (22:Nat)≠24 by decide),HN_.o.1,HN_.o.2.1,HN_.o.2.2.1,HN_.o.2.2.2.1,HN_.o.2.2.2.2.1,HN_.o.2.2.2.2.2,aj,if_false,if_true];exact ⟨fun _=>(HE_.o.1 trivial).mv hA_.mv (fun q a b=>HE_.o.2.2.2.2.2.1.rows.apart (HE_.o.1 trivial) af q b a),fun _=>HE_.o.2.1 trivial,fun _=>(HE_.o.2.2.1 trivial).mv hA_.mv (fun q a b=>HE_.o.2.2.2.2.2.1.rows.apart (HE_.o.2.2.1 trivial) af q b a),fun _=>HE_.o.2.2.2.1 trivial,fun _=>⟨b_,HG_.o,(fun h=>by cases h)⟩,HE_.o.2.2.2.2.2.1.Gf hA_ (HE_.o.1 trivial) (HE_.o.2.2.1 trivial),hA_.mv.ay HE_.o.2.2.2.2.2.2 (HE_.o.2.2.2.2.2.1.rows.aP HE_.o.2.2.2.2.2.2 af)⟩)
    refine RI 3 (.pointer (some ⟨w.heap.size+1+1,0,none⟩)) ?_;refine aA.cons (fun L_ g_ A_ W_ hs_=>?_) ?_
    ·have q37_:=hs_.val 23;have q36_:=hs_.bH 22;refine dH.bH fun K_ hK_=>?_;have y8_:=hs_.yes 8 ag;have y12_:=hs_.yes 12 ag;have y17_:=hs_.yes 17 ag;have y20_:=hs_.yes 20 ag;have y21_:=hs_.yes 21 ag;have y22_:=hs_.yes 22 ag;have n24_:=hs_.not;have e_:=hs_.e;simp only [y8_,y12_,y17_,y20_,y21_,y22_,n24_,aj,if_false,if_true] at e_;obtain ⟨a_,cc_,es_⟩:=e_.2.2.2.2.2.1.rows.FX;rw [es_] at e_ q36_;have HES:=ai es_;clear es_;have c_:=e_.2.2.2.2.2.2.cell 1 rfl;have f_:=e_.2.2.2.2.2.2.free 1;have HN_:=ai (And.intro y8_ (And.intro y12_ (And.intro y17_ (And.intro y20_ (And.intro y21_ (y22_))))));clear y8_ y12_ y17_ y20_ y21_ y22_ n24_;have HE_:=ai e_;have HM_:=ai hs_.mv;clear e_;go_simp;exact hK_.o undef _ (HM_.o.setCell (Or.inl (Or.inr rfl)) _) (by simp only [aY,cr,aq (show (24:Nat)≠8 by decide),av (show (24:Nat)≠8 by decide),aq (show (24:Nat)≠12 by decide),av (show (24:Nat)≠12 by decide),aq (show (24:Nat)≠17 by decide),av (show (24:Nat)≠17 by decide),aq (show (24:Nat)≠20 by decide),av (show (24:Nat)≠20 by decide),aq (show (24:Nat)≠21 by decide),av (show (24:Nat)≠21 by decide),aq (show (24:Nat)≠22 by decide),av (show (24:Nat)≠22 by decide),HN_.o.1,HN_.o.2.1,HN_.o.2.2.1,HN_.o.2.2.2.1,HN_.o.2.2.2.2.1,HN_.o.2.2.2.2.2,HES.o,aj,if_false,if_true];exact ⟨fun _=>(HE_.o.1 trivial).other _ ((HE_.o.1 trivial).aP HE_.o.2.2.2.2.2.2 af),fun _=>HE_.o.2.1 trivial,fun _=>(HE_.o.2.2.1 trivial).other _ ((HE_.o.2.2.1 trivial).aP HE_.o.2.2.2.2.2.2 af),fun _=>HE_.o.2.2.2.1 trivial,fun _=>let ⟨b,x,_⟩:=HE_.o.2.2.2.2.1 trivial;⟨b,x,(fun h=>by cases h)⟩,HE_.o.2.2.2.2.2.1.other _ (HE_.o.2.2.2.2.2.1.G0 HE_.o.2.2.2.2.2.2 af af),HE_.o.2.2.2.2.2.2.set 1 _⟩)
    exact aA.nil
   simp only [dX,Ke.value,a7,Act.put,List.setIfInBounds_toArray,List.set_cons_zero,List.set_cons_succ,Nat.reduceAdd];have HX4:Hid (Ext w w4):=ai hm_.ext;have HB0_4:=ai (hm_.ay HB0_3.o (fun h=>h.elim (HMR_3.o.rows.aP HB0_3.o af) (fun e=>((show w.heap.size≠w.heap.size+1+1 from ah)) e)));have h_:=he_;simp only [if_true] at h_;obtain ⟨vr2,ev_⟩:∃ v,gv_ 22=v:=⟨_,rfl⟩
   obtain ⟨vf2,eg_⟩:∃ v,gv_ 8=v:=⟨_,rfl⟩
   obtain ⟨vf3,eh_⟩:∃ v,gv_ 17=v:=⟨_,rfl⟩
   rw [ev_,eg_,eh_] at h_;have HMR_4:=ai h_.2.2.2.2.2.1;have HB2_4:=ai h_.2.2.2.2.2.2;have HRG2:=ai (zA (G:=(fun i => .string (qs ((bO n p).B i)))) (x:=vf2) (y:=vf3) (a:=.string (qs (-(p k).z))) (b:=.string (qs (p k).z)) HRG.o (by simp only [q6]) (by simp only [q5]));clear h_ ev_ eg_ eh_;clear hm_ he_;go_wp2_with fail;go_roundw
   case rel=>exact ⟨k+1,by go_num,ae,ai ⟨HX4.o,HB0_4.o,⟨_,_,_,HB2_4.o,HMR_4.o,HRG2.o⟩⟩⟩
   case measure=>simp [intOf];omega
  ·have hk2:k=n:=ae;have hge:¬ (k:Int)<((n:Nat):Int):=ae;obtain rfl:n=k:=hk2.symm;have c2_0:=HB2_2.o.cell 0 rfl;have c2_1:=HB2_2.o.cell 1 rfl;have c2_2:=HB2_2.o.cell 2 rfl;have c0_0:=HB0_2.o.cell 0 rfl;have f0_0:=HB0_2.o.free 0;have c0_1:=HB0_2.o.cell 1 rfl;have f0_1:=HB0_2.o.free 1;have c0_2:=HB0_2.o.cell 2 rfl;have f0_2:=HB0_2.o.free 2;go_wp2_with fail;refine au (fun W=>Ext w W/\ak W (w.heap.size) (#[.int .i64 4,.slice la (2*n) rc,.slice (some ⟨w.heap.size+1,0,none⟩) 4 4]) 32/\ak W (w.heap.size+1+1) (#[.int .i64 4,.slice la (2*n) rc,.slice (some ⟨w.heap.size+1,0,none⟩) 4 4]) 32/\MR w 4 (2*n) (.slice la (2*n) rc) (.slice (some ⟨w.heap.size+1,0,none⟩) 4 4) RG (fun j => .string (qs ((bO n p).C j))) vf (fun i j => .string (qs ((bO n p).A i j))) W) ⟨(((HX2.o.setCell (HGEB0.o) _).setCell (HGEB0.o) _).setCell (HGEB0.o) _),(((HB0_2.o.set 0 (.int .i64 4)).set 1 (.slice la (2*n) rc)).set 2 (.slice (some ⟨w.heap.size+1,0,none⟩) 4 4)),(((HB2_2.o.other (a:=⟨w.heap.size,0,none⟩) _ ah).other (a:=⟨w.heap.size,1,none⟩) _ ah).other (a:=⟨w.heap.size,2,none⟩) _ ah),(((HMR_2.o.other (a:=⟨w.heap.size,0,none⟩) _ ((MR.G0 HMR_2.o HB0_2.o af af))).other (a:=⟨w.heap.size,1,none⟩) _ ((MR.G0 HMR_2.o HB0_2.o af af))).other (a:=⟨w.heap.size,2,none⟩) _ ((MR.G0 HMR_2.o HB0_2.o af af)))⟩ ?_;rintro w3 ⟨e3,bB0_3,bB2_3,bMR_3⟩;have HX3:=ai e3;have HB0_3:=ai bB0_3;have HB2_3:=ai bB2_3;have HMR_3:=ai bMR_3;clear e3 bB0_3 bB2_3 bMR_3 c2_0 c2_1 c2_2 c0_0 f0_0 c0_1 f0_1 c0_2 f0_2;have gB0_0:=HB0_3.o.cell 0 rfl;have gB0_1:=HB0_3.o.cell 1 rfl;have gB0_2:=HB0_3.o.cell 2 rfl;refine bodyPost_ret (v:=.agg #[.int .i64 4,.slice la (2*n) rc,.slice (some ⟨w.heap.size+1,0,none⟩) 4 4]) (by simp [results,Tryz.results84,go_sem,gB0_0,gB0_1,gB0_2]) rfl ⟨_,_,_,rfl,HX3.o,MR.pm (P:=bO n p) HMR_3.o HRG.o⟩
theorem bu.vb {v:V3} (h:bu v):VB 1 v:=⟨gM h.x,gM h.y,gM h.z⟩
section
variable {X w:World} {n:Nat} {p:Nat->V3} {vr vc v:Value} {va:Nat->Value}
theorem Fs (h:∀ i,i<n->bu (p i)):PQ (bO n p):=⟨fun i hi j _=>(gM (AM h i hi j)).mono af,fun i hi=>(gM (DL h i hi)).mono af,fun j _=>(gM (DK j)).mono af⟩
theorem Fp (g:Gd w) (hP:PM (bO n p) w vr vc va) (h:∀ i,i<n->bu (p i)) (hn:n<=60):Calls Tryz.prog 15 #[.agg #[.int .i64 4,vr,vc]] w (DY (bO n p) 7 w) :=
 EH (bO n p) vr vc va 7 w g hP (C6 h) (Fs h) (by show 4<=60;decide) (by show 2*n<=300;omega) af af (fun i hi j _=>(gM (AM h i hi j)).mono af)
theorem C7 (hv:cz (bO n p) 7 X w v) (hn0:0<n) (h:∀ i,i<n->bu (p i)):∃ val x y pk CP dk CD,v = .agg #[.int .i64 1,.string (qs val),.slice (some ⟨pk,0,none⟩) 4 4,.slice (some ⟨dk,0,none⟩) (2*n) (2*n),.slice none 0 0]/\dQ (bO n p) val x y/\QB 7 val/\(∀ j,j<4->QB 7 (x j))/\(∀ i,i<2*n->QB 7 (y i)) /\
    (X.heap.size<=pk/\ak w pk CP 34/\∀ j,j<4->CP[j]?=some (.string (qs (x j))))/\X.heap.size<=dk/\ak w dk CD 34/\∀ i,i<2*n->CD[i]?=some (.string (qs (y i))):=by
 rcases hv with ⟨val,x,y,vp,vd,rfl,h2,h3,h4,h5,h6,h7⟩|⟨y,vd,rfl,h2,h3,h4⟩|⟨x,d,vp,vd,rfl,h2,h3,h4,h5,h6⟩
 ·have h6':Nq X w vp 4 x:=h6;have h7':Nq X w vd (2*n) y:=h7;obtain ⟨k,C,rfl,l,b,c⟩:=h6';obtain ⟨k',C',rfl,l',b',c'⟩:=h7';exact ⟨val,x,y,k,C,k',C',rfl,h2,h3,h4,h5,⟨l,b,c⟩,l',b',c'⟩
 ·exact (h2.none _ (yo h)).elim
 ·exact (yr hn0 h2).elim
def FV (n:Nat) (p:Nat->V3) (w:World) (e:Ending) (w':World):Prop:=∃ val x y vd,e = .returned (.tuple #[.agg #[.string (qs (x 0)),.string (qs (x 1)),.string (qs (x 2)),.string (qs val),vd],.int .i64 0])/\Ext w w'/\dQ (bO n p) val x y/\QB 7 val/\(∀ j,j<4->QB 7 (x j))/\(∀ i,i<2*n->QB 7 (y i))/\Nq w w' vd (2*n) y
theorem vN {v:V3} {k:Nat} (h:VB k v) (hk:k<=200):TS (vt v):=(h.mono hk).ts
theorem lV {v:V3} {k:Nat} (h:VB k v) (hk:k<=200):bQ (vt v).l=0:=by rw [bQ,vt,(h.mono hk).all];rfl
theorem Ft (h:∀ i,i<n->bu (p i)) (hn0:0<n) (hn:n<=60):fm (fun k=>bQ (vt (p k)).l) n=0:=by
 rw [ko ae ae];exact gV fun i hi=>lV (h i hi).vb af
end
theorem jf (vo:Option Addr) (n cap:Nat) (t:Nat->T3) (w:World) (g:Gd w) (hl:mH w vo n t) (hs:∀ k,k<n->TS (t k)) (hn:n<=1000000):Calls Tryz.prog 83 #[.slice vo n cap] w (aC w (.int .i64 (fm (fun k=>bQ (t k).l) n))):=by
 have HG:=ai g;have HL:=ai hl;have HS:=ai hs;clear g hl hs;go_enter Tryz.func83,Tryz.ntmps83;go_wp2_with fail;refine cto (wP vo n cap 162 #[] t _ _ (HL.o.ext (Ext.refl w)) (fun W e_ k hk=>uR (t k) W (((HG.o.ext ((Ext.refl w)))).ext e_) (HS.o k hk)) hn (fun _ _=>ag)) fun w1 e1=>?_
 have HX1:Hid (Ext w w1):=ai ((Ext.refl w).trans e1);clear e1;go_wp2;go_ret;exact ⟨rfl,HX1.o⟩
theorem oe (vo:Option Addr) (n cap:Nat) (p:Nat->V3) (w:World) (g:Gd w) (hl:lT w vo n p) (hq:∀ i,i<n->bu (p i)) (hn0:0<n) (hn:n<=60):Calls Tryz.prog 26 #[.slice vo n cap] w (FV n p w):=by
 have HG:=ai g;have HL:=ai hl;have HQ:=ai hq;clear g hl hq;have HOK:=ai (Ft HQ.o hn0 hn);go_enter Tryz.func26,Tryz.ntmps26;go_wp2_with fail;refine ((HOK.o▸jf vo n cap (fun k=>vt (p k)) _ (HG.o.ext (((Ext.refl w).alloc _))) (mH.ext HL.o ((Ext.refl w).alloc _)) (fun k hk=>vN (HQ.o k hk).vb af) ae)).mono ?_;rintro e w1 ⟨rfl,e1⟩;have HX1:Hid (Ext w w1):=ai (((Ext.refl w).alloc _).trans e1);have HB0_1:Hid (ak w1 (w.heap.size) (#[.string ⟨#[]⟩,.string ⟨#[]⟩,.string ⟨#[]⟩,.string ⟨#[]⟩,.slice none 0 0]) 60):=ai (((ak.nw (#[.string ⟨#[]⟩,.string ⟨#[]⟩,.string ⟨#[]⟩,.string ⟨#[]⟩,.slice none 0 0]) 60)).ext e1);have HGEB0:Hid (w.heap.size<=w.heap.size):=ai (Nat.le_refl _);clear e1;go_wp2_with fail;refine (CV vo n cap p _ (HG.o.ext (HX1.o)) (HL.o.ext HX1.o) (fun i hi=>(HQ.o i hi).vb) hn).mono ?_;rintro e w2 ⟨vr,vc,va,hp_,e2,pm_⟩;replace hp_:e = .returned (.agg #[.int .i64 4,vr,vc]):=hp_;subst hp_;have HX2:=ai (HX1.o.trans e2);have HB0_2:=ai (HB0_1.o.ext e2);clear e2;have HPM:=ai pm_;clear pm_;have HM1_2:Hid (Fr w2 w2):=ai (Fr.refl _);go_wp2_with fail;refine (Fp (HG.o.ext (HX2.o)) (HPM.o.ext HM1_2.o.out) HQ.o hn).mono ?_;rintro e w3 ⟨v_,rfl,e3,sv_⟩;obtain ⟨val,x,y,pk,CP,dk,CD,rfl,hb_,hv_,hx_,hy_,hp_,hd_⟩:=C7 sv_ hn0 HQ.o;have HB:=ai hb_;have HV:=ai hv_;have HX:=ai hx_;have HY:=ai hy_;have HCP:=ai hp_.2.2;have HCD:=ai hd_.2.2;have HGEBp:Hid (w.heap.size<=pk):=ai (Nat.le_trans HX2.o.size hp_.1);have HGEBd:Hid (w.heap.size<=dk):=ai (Nat.le_trans HX2.o.size hd_.1);have HBp_3:=ai hp_.2.1;have HBd_3:=ai hd_.2.1;clear hb_ hv_ hx_ hy_ hp_ hd_ sv_;have HX3:=ai (HX2.o.trans e3);have HB0_3:=ai (HB0_2.o.ext e3);have HM1_3:=ai (HM1_2.o.ext e3);clear e3;have HNBpB0:Hid (pk≠w.heap.size):=ai (b7 HBp_3.o HB0_3.o af);have HNBdB0:Hid (dk≠w.heap.size):=ai (b7 HBd_3.o HB0_3.o af);go_upto_region 7 with fail
 refine au (fun W=>Ext w W/\ak W (w.heap.size) (#[.string ⟨#[]⟩,.string ⟨#[]⟩,.string ⟨#[]⟩,.string ⟨#[]⟩,.slice none 0 0]) 60/\ak W (pk) (CP) 34/\ak W (dk) (CD) 34/\ak W (w3.heap.size) (#[.int .i64 1,.string (qs val),.slice (some ⟨pk,0,none⟩) 4 4,.slice (some ⟨dk,0,none⟩) (2*n) (2*n),.slice none 0 0]) 38) ⟨(HX3.o.alloc _),(HB0_3.o.alloc _),(HBp_3.o.alloc _),(HBd_3.o.alloc _),(ak.nw (#[.int .i64 1,.string (qs val),.slice (some ⟨pk,0,none⟩) 4 4,.slice (some ⟨dk,0,none⟩) (2*n) (2*n),.slice none 0 0]) 38)⟩ ?_;rintro w4 ⟨e4,bB0_4,bBp_4,bBd_4,bB1_4⟩;have HX4:=ai e4;have HB0_4:=ai bB0_4;have HBp_4:=ai bBp_4;have HBd_4:=ai bBd_4;have HB1_4:=ai bB1_4;have HGEB1:Hid (w.heap.size<=w3.heap.size):=ai (HX3.o.size);clear e4 bB0_4 bBp_4 bBd_4 bB1_4;have c1_0:=HB1_4.o.cell 0 rfl;go_wp2_with fail;clear c1_0;refine ax [.val (.pointer (some ⟨w3.heap.size,2,none⟩)),.val (.slice (some ⟨pk,0,none⟩) 4 4),.val (.pointer (some ⟨pk,0,none⟩)),.val (.string (qs (x 0))),.val (.pointer (some ⟨w3.heap.size,2,none⟩)),.val (.slice (some ⟨pk,0,none⟩) 4 4),.val (.pointer (some ⟨pk,1,none⟩)),.val (.string (qs (x 1))),.val (.agg #[.string (qs (x 0)),.string (qs (x 1))]),.val (.pointer (some ⟨w3.heap.size,2,none⟩)),.val (.slice (some ⟨pk,0,none⟩) 4 4),.val (.pointer (some ⟨pk,2,none⟩)),.val (.string (qs (x 2))),.val (.pointer (some ⟨w3.heap.size,1,none⟩)),.val (.string (qs val)),.val (.pointer (some ⟨w3.heap.size,3,none⟩)),.val (.agg #[.slice (some ⟨dk,0,none⟩) (2*n) (2*n)]),.val (.agg #[.string (qs (x 0)),.string (qs (x 1)),.string (qs (x 2)),.string (qs val),.slice (some ⟨dk,0,none⟩) (2*n) (2*n)]),.bH,.val (.int .i64 0)] (fun L g W=>(if L 18=true then ak W (w.heap.size) (#[.string (qs (x 0)),.string (qs (x 1)),.string (qs (x 2)),.string (qs val),.slice (some ⟨dk,0,none⟩) (2*n) (2*n)]) 60 else ak W (w.heap.size) (#[.string ⟨#[]⟩,.string ⟨#[]⟩,.string ⟨#[]⟩,.string ⟨#[]⟩,.slice none 0 0]) 60)) (S:=fun k=>k=w.heap.size) ag ag ag (Mv.refl HX4.o (fun k h=>(fun e=>Nat.le_trans (show w.heap.size<=w.heap.size from HGEB0.o) (Nat.le_of_eq e.symm)) h)) ?_ ?_ ?_ ?_ (fun gv_ w5 hm_ he_=>?_)
 ·exact fun gz_=>(by rw [if_neg af];exact HB0_4.o.drew)
 ·exact fun L g W W1 h e=>br (h) (fun h=>h.ext e) (fun h=>h.ext e)
 ·intro i v L g W hi h;have n18_:i≠18:=fun e=>by subst e;exact absurd (show false=true from hi) af
  simp only [aq n18_,av n18_];exact h
 ·skip
  refine RI 5 (.pointer (some ⟨w3.heap.size,0,none⟩))<|J2 (fun hs_=>hs_.val 0) (fun hs_=>(hs_.mv.ay HB1_4.o (fun h=>((show w3.heap.size≠w.heap.size from Nat.ne_of_gt HB0_3.o.lt)) h)).cell 2 rfl)<|R1 1<|J2 (fun hs_=>hs_.val 2) (fun hs_=>(hs_.mv.ay HBp_4.o (fun h=>((show pk≠w.heap.size from HNBpB0.o)) h)).cell (0) (HCP.o 0 af))<|RI 5 (.pointer (some ⟨w3.heap.size,0,none⟩))<|J2 (fun hs_=>hs_.val 4) (fun hs_=>(hs_.mv.ay HB1_4.o (fun h=>((show w3.heap.size≠w.heap.size from Nat.ne_of_gt HB0_3.o.lt)) h)).cell 2 rfl)<|R1 5<|J2 (fun hs_=>hs_.val 6) (fun hs_=>(hs_.mv.ay HBp_4.o (fun h=>((show pk≠w.heap.size from HNBpB0.o)) h)).cell (1) (HCP.o 1 af))<|R2 3 7<|RI 5 (.pointer (some ⟨w3.heap.size,0,none⟩))<|J2 (fun hs_=>hs_.val 9) (fun hs_=>(hs_.mv.ay HB1_4.o (fun h=>((show w3.heap.size≠w.heap.size from Nat.ne_of_gt HB0_3.o.lt)) h)).cell 2 rfl)<|R1 10<|J2 (fun hs_=>hs_.val 11) (fun hs_=>(hs_.mv.ay HBp_4.o (fun h=>((show pk≠w.heap.size from HNBpB0.o)) h)).cell (2) (HCP.o 2 af))<|RI 5 (.pointer (some ⟨w3.heap.size,0,none⟩))<|J2 (fun hs_=>hs_.val 13) (fun hs_=>(hs_.mv.ay HB1_4.o (fun h=>((show w3.heap.size≠w.heap.size from Nat.ne_of_gt HB0_3.o.lt)) h)).cell 1 rfl)<|RI 5 (.pointer (some ⟨w3.heap.size,0,none⟩))<|J2 (fun hs_=>hs_.val 15) (fun hs_=>(hs_.mv.ay HB1_4.o (fun h=>((show w3.heap.size≠w.heap.size from Nat.ne_of_gt HB0_3.o.lt)) h)).cell 3 rfl)<|J4 (fun hs_=>hs_.val 8) (fun hs_=>hs_.val 12) (fun hs_=>hs_.val 14) (fun hs_=>hs_.val 16) ?_;refine aA.cons (fun L_ g_ A_ W_ hs_=>?_) ?_
  ·have q2_:=hs_.is 2 (.pointer (some ⟨w.heap.size,0,none⟩));have q44_:=hs_.val 17;refine dH.bH fun K_ hK_=>?_;have n_:=hs_.not;have e_:=hs_.e;rw [if_neg (by rw [n_];decide)] at e_;have c_0:=e_.cell 0 rfl;have f_0:=e_.free 0;have c_1:=e_.cell 1 rfl;have f_1:=e_.free 1;have c_2:=e_.cell 2 rfl;have f_2:=e_.free 2;have c_3:=e_.cell 3 rfl;have f_3:=e_.free 3;have c_4:=e_.cell 4 rfl;have f_4:=e_.free 4;have HE_:=ai e_;have HM_:=ai hs_.mv;have HEE_:=ai hs_.e;clear e_ n_;go_simp;exact hK_.o undef _ (((((HM_.o.setCell (Or.inl (rfl)) _).setCell (Or.inl (rfl)) _).setCell (Or.inl (rfl)) _).setCell (Or.inl (rfl)) _).setCell (Or.inl (rfl)) _) (by rw [aY,if_pos rfl];exact (ak.cast (((((HE_.o.set 0 _).set 1 _).set 2 _).set 3 _).set 4 _) (by simp only [List.setIfInBounds_toArray,List.set_cons_zero,List.set_cons_succ])))
  refine RV (fun A_ hs_ K_ hK_=>?_) ?_;· go_simp;exact cd hK_
  exact aA.nil
 simp only [dX,Ke.value,a7,Act.put,List.setIfInBounds_toArray,List.set_cons_zero,List.set_cons_succ];have HX5:Hid (Ext w w5):=ai hm_.ext;have HB0_5:Hid (ak w5 (w.heap.size) (#[.string (qs (x 0)),.string (qs (x 1)),.string (qs (x 2)),.string (qs val),.slice (some ⟨dk,0,none⟩) (2*n) (2*n)]) 60):=ai (by have h_:=he_;rw [if_pos rfl] at h_;exact h_);have HBp_5:=ai (hm_.ay HBp_4.o (fun h=>((show pk≠w.heap.size from HNBpB0.o)) h));have HBd_5:=ai (hm_.ay HBd_4.o (fun h=>((show dk≠w.heap.size from HNBdB0.o)) h));clear hm_ he_;go_wp2_with fail;have gB0_0:=HB0_5.o.cell 0 rfl;have gB0_1:=HB0_5.o.cell 1 rfl;have gB0_2:=HB0_5.o.cell 2 rfl;have gB0_3:=HB0_5.o.cell 3 rfl;have gB0_4:=HB0_5.o.cell 4 rfl;refine bodyPost_ret (v:=.tuple #[.agg #[.string (qs (x 0)),.string (qs (x 1)),.string (qs (x 2)),.string (qs val),.slice (some ⟨dk,0,none⟩) (2*n) (2*n)],.int .i64 0]) (by simp [results,Tryz.results26,go_sem,gB0_0,gB0_1,gB0_2,gB0_3,gB0_4]) rfl ⟨val,x,y,_,rfl,HX5.o,HB.o,HV.o,HX.o,HY.o,⟨dk,CD,rfl,HGEBd.o,HBd_5.o,HCD.o⟩⟩
def DX (w:World) (wo:Option Addr) (m:Nat) (c:Nat->Nat->Int):Prop:=∀ i,i<m->∃ wa o,wo=some ⟨wa,o,none⟩/\∀ j,j<3->w.cell? ⟨wa,o+i*3+j,none⟩=some (.int .i8 (c i j))
theorem DX.ext {w w':World} {wo:Option Addr} {m:Nat} {c:Nat->Nat->Int} (h:DX w wo m c) (e:Ext w w'):DX w' wo m c:=fun i hi=>let ⟨wa,o,a,b⟩:=h i hi;⟨wa,o,a,fun j hj=>aw e (b j hj)⟩
def h3 (a0 a1 a2:Value) (i:Nat):Value:=if i=0 then a0 else if i=1 then a1 else a2
section
variable {X w W w':World} {b n:Nat} {p:Nat->V3} {v v':Value}
end
structure IV (K:Nat) (v:V3):Prop where
 x:ZB K v.x
 y:ZB K v.y
 z:ZB K v.z
def eu (v:V3):Prop:=¬ (v.x=0/\v.y=0/\v.z=0)
theorem nH {q:Rat} (h:jQ q):ZB 9 q:=by obtain ⟨a,rfl,h1,h2⟩:=h;exact ⟨a,rfl,ae⟩
theorem bu.iv {v:V3} (h:bu v):IV 9 v:=⟨nH h.x,nH h.y,nH h.z⟩
theorem ZB.q {K k:Nat} {q:Rat} (h:ZB K q) (hK:K<10 ^ k) (hk:1<=k):QB k q:=by obtain ⟨a,rfl,h⟩:=h;exact QB.int ⟨ae⟩ hk
theorem IV.vb {K k:Nat} {v:V3} (h:IV K v) (hK:K<10 ^ k) (hk:1<=k):VB k v:=⟨h.x.q hK hk,h.y.q hK hk,h.z.q hK hk⟩
theorem IV.ints {K:Nat} {v:V3} (h:IV K v):∃ a b c:Int,v=⟨(a:Rat),(b:Rat),(c:Rat)⟩/\a.natAbs<=K/\b.natAbs<=K/\c.natAbs<=K:=by
 obtain ⟨⟨a,ha,h1⟩,⟨b,hb,h2⟩,⟨c,hc,h3⟩⟩:=h;exact ⟨a,b,c,by cases v;simp only at ha hb hc;rw [ha,hb,hc],h1,h2,h3⟩
theorem qi {K g:Nat} {a:Int} (hg:g≠0) (h:(g:Int)∣a) (ha:a.natAbs<=K):ZB K ((a:Rat)*mkRat 1 g)/\((a:Rat)*mkRat 1 g=0->a=0):=by
 obtain ⟨e,rfl⟩:=h;have hg':((g:Int):Rat)≠0:=fun h=>hg (by have:=Rat.intCast_eq_zero_iff.1 h;omega)
 have:(((g:Int)*e:Int):Rat)*mkRat 1 g=(e:Rat):=by
  rw [Rat.mkRat_eq_div,Rat.intCast_mul,← Rat.intCast_natCast];grind
 rw [this];refine ⟨⟨e,rfl,?_⟩,fun h=>?_⟩
 ·rw [Int.natAbs_mul] at ha;exact Nat.le_trans (Nat.le_mul_of_pos_left _ ae) ha
 ·have:e=0:=Rat.intCast_inj.1 h;rw [this];simp
theorem mm {K:Nat} {v:V3} (h:IV K v) (hz:eu v):aB v=v/\fX v≠0/\IV K (az v)/\eu (az v):=by
 obtain ⟨a,b,c,rfl,h1,h2,h3⟩:=h.ints;have hw:aB ⟨(a:Rat),(b:Rat),(c:Rat)⟩=⟨(a:Rat),(b:Rat),(c:Rat)⟩:=by
  have:nE ⟨(a:Rat),(b:Rat),(c:Rat)⟩=1:=by simp [nE,sk,sq,zU]
  simp only [aB,this];simp
 have hg:fX ⟨(a:Rat),(b:Rat),(c:Rat)⟩=Int.gcd (Int.gcd (Int.gcd 0 a) b) c:=by simp [fX,Cf,Cg]
 have g0:fX ⟨(a:Rat),(b:Rat),(c:Rat)⟩≠0:=fun e=>hz (by
  rw [hg] at e;obtain ⟨e1,e2⟩:=Int.gcd_eq_zero_iff.1 e;obtain ⟨e3,e4⟩:=Int.gcd_eq_zero_iff.1 (by simpa using e1:Int.gcd (Int.gcd 0 a) b=0);obtain ⟨_,e5⟩:=Int.gcd_eq_zero_iff.1 (by simpa using e3:Int.gcd 0 a=0);subst e2 e4 e5;exact ⟨rfl,rfl,rfl⟩)
 have d3:((fX ⟨(a:Rat),(b:Rat),(c:Rat)⟩:Nat):Int)∣c:=by rw [hg];exact Int.gcd_dvd_right ..
 have d12:((fX ⟨(a:Rat),(b:Rat),(c:Rat)⟩:Nat):Int)∣(Int.gcd (Int.gcd 0 a) b:Int):=by rw [hg];exact Int.gcd_dvd_left ..
 have d2:=Int.dvd_trans d12 (Int.gcd_dvd_right (Int.gcd 0 a:Int) b);have d1:=Int.dvd_trans (Int.dvd_trans d12 (Int.gcd_dvd_left (Int.gcd 0 a:Int) b)) (Int.gcd_dvd_right 0 a);have p1:=qi g0 d1 h1;have p2:=qi g0 d2 h2;have p3:=qi g0 d3 h3;refine ⟨hw,g0,?_,?_⟩
 ·simp only [az,hw];exact ⟨p1.1,p2.1,p3.1⟩
 ·intro h0;simp only [az,hw] at h0;exact hz (by rw [p1.2 h0.1,p2.2 h0.2.1,p3.2 h0.2.2];exact ⟨rfl,rfl,rfl⟩)
theorem lD (x:Rat):0<=x*x:=by
 rcases Rat.le_total (a:=0) (b:=x) with h|h
 ·exact Rat.mul_nonneg h h
 ·have:=Rat.mul_nonneg (a:=-x) (b:=-x) (by grind) (by grind);grind
theorem sq_pos {x:Rat} (h:x≠0):0<x*x:=by
 have:=lD x;have:x*x≠0:=fun e=>(Rat.mul_eq_zero.1 e).elim h h
 grind
theorem mF {v:V3} (h:eu v):0<aR v v:=by
 unfold aR;have a:=lD v.x;have b:=lD v.y;have c:=lD v.z;by_cases hx:v.x=0
 ·by_cases hy:v.y=0
  ·have:=sq_pos (x:=v.z) (fun e=>h ⟨hx,hy,e⟩);grind
  ·have:=sq_pos hy;grind
 ·have:=sq_pos hx;grind
def ck (a n:V3):Rat:=aR a n*aR a n / (aR a a*aR n n)
def bZ (a b:V3):V3:=⟨a.y*b.z-a.z*b.y,a.z*b.x-a.x*b.z,a.x*b.y-a.y*b.x⟩
theorem AY {a n:V3} (ha:eu a) (hn:eu n):aR a a*aR n n≠0:=fun e=>by
 have h1:=mF ha;have h2:=mF hn;rcases Rat.mul_eq_zero.1 e with h|h <;> grind
theorem rk {A B:Nat} {a b:V3} (ha:IV A a) (hb:IV B b):ZB (A*B+A*B+A*B) (aR a b):=((ha.x.mul hb.x).add (ha.y.mul hb.y)).add (ha.z.mul hb.z)
theorem mA {a n:V3} (ha:IV 162 a) (hn:IV 9 n) (h1:eu a) (h2:eu n):QB 8 (ck a n):=by
 have e:=AY h1 h2;refine ZB.qb (D:=aR a a*aR n n) (G:=19131876) e (((rk ha ha).mul (rk hn hn)).mono af) ?_ af;have:aR a a*aR n n*ck a n=aR a n*aR a n:=by unfold ck;grind
 rw [this];exact ((rk ha hn).mul (rk ha hn)).mono af
theorem y9 {n:Nat} {g:Nat->Rat} (h:∀ i,i<n->QB 8 (g i)):∀ k,k<=n->QB (1+k*9) (aF k g)
 | 0,_=>(QB.int (n:=0) (k:=1) ⟨af⟩ af).mono af
 | k+1,hk=>((y9 h k ae).add (h k ae)).mono ae
def eg (p:V3):V3:=if 0<p.z∨p.z=0/\(p.y<0∨p.y=0/\p.x<0) then ⟨-p.x,-p.y,-p.z⟩ else p
theorem Fq {K:Nat} {p:V3} (h:IV K p) (hz:eu p):IV K (eg p)/\eu (eg p):=by
 unfold eg;split
 ·exact ⟨⟨h.x.neg,h.y.neg,h.z.neg⟩,fun e=>hz ⟨by have:=e.1;grind,by have:=e.2.1;grind,by have:=e.2.2;grind⟩⟩
 ·exact ⟨h,hz⟩
theorem xg {a b:V3} (ha:IV 9 a) (hb:IV 9 b):IV 162 (bZ a b):=by
 have m:∀ {p q r s:Rat},ZB 9 p->ZB 9 q->ZB 9 r->ZB 9 s->ZB 162 (p*q-r*s):=fun hp hq hr hs=>by
  rw [Rat.sub_eq_add_neg];exact ((hp.mul hq).add (hr.mul hs).neg).mono af
 exact ⟨m ha.y hb.z ha.z hb.y,m ha.z hb.x ha.x hb.z,m ha.x hb.y ha.y hb.x⟩
end Go.Proofs.YtmahadmefplbnaaGreatDoor
