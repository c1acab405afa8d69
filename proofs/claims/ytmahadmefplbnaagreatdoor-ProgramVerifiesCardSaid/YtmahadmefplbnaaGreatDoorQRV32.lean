/- Part 32. -/
import Derived.Test.YtmahadmefplbnaaGreatDoorQRV31
set_option maxRecDepth 100000
set_option maxHeartbeats 2000000
set_option linter.unusedSimpArgs false
set_option linter.unusedVariables false
theorem Go.Proofs.YtmahadmefplbnaaGreatDoor.Hi32 {p:Prop} (h:p):Go.RowKit.Hid p:=h
namespace Go.Proofs.YtmahadmefplbnaaGreatDoor
open Go Go.RowKit
def emc (kd:Int) (val:ByteArray) (np nd nr:Nat):Int:=if kd<1∨3<kd then 12 else if (kd≠1/\val≠⟨#[]⟩)∨(kd=2/\0<np)∨(kd=3/\0<nd)∨(kd≠3/\0<nr) then 7 else 0
theorem kd5 (kd:Int):kd<1∨3<kd∨kd=1∨kd=2∨kd=3:=by omega
theorem pempty_c (kd:Int) (val:ByteArray) (o1:Option Addr) (m1 c1:Nat) (o2:Option Addr) (m2 c2:Nat) (o3:Option Addr) (m3 c3:Nat) (w:World):Calls Tryz.prog 74 #[.agg #[.int .i64 kd,.string val,.slice o1 m1 c1,.slice o2 m2 c2,.slice o3 m3 c3]] w (Ret w (.int .i64 (emc kd val m1 m2 m3))):=by
 go_enter Tryz.func74,Tryz.ntmps74;rcases kd5 kd with h|h|rfl|rfl|rfl
 ·have k1:¬ kd=1:=by omega
  have k3:¬ kd=3:=by omega
  have k6:(kd == 1)=false:=by simpa using k1
  have k7:(kd != 3)=true:=by simpa using k3
  have k4:kd<1:=h
  skip
  go_wp2_with fail;refine wp_name (fun W=>Ext w W/\Blk W (w.heap.size) (#[.int .i64 kd,.string val,.slice o1 m1 c1,.slice o2 m2 c2,.slice o3 m3 c3]) 38) ⟨((Ext.refl w).alloc _),(Blk.nw (#[.int .i64 kd,.string val,.slice o1 m1 c1,.slice o2 m2 c2,.slice o3 m3 c3]) 38)⟩ ?_;rintro w1 ⟨e1,bB0_1⟩;have HX1:=Hi32 e1;have HB0_1:=Hi32 bB0_1;have HGEB0:Hid (w.heap.size<=w.heap.size):=Hi32 (Nat.le_refl _);clear e1 bB0_1;refine region_e [.val (.pointer (some ⟨w.heap.size,0,none⟩)),.val (.int .i64 kd),.val (.bool false),.val (.pointer (some ⟨w.heap.size,0,none⟩)),.val (.int .i64 kd),.val (.bool true),.val (.bool false),.val (.bool true)] (fun L g W=>True) (S:=fun _=>False) (by kernel_rfl) (by kernel_rfl) (by kernel_rfl) (Mv.refl HX1.out (fun k h=>h.elim)) ?_ ?_ ?_ ?_ (fun gv_ w2 hm_ he_=>?_)
  ·exact fun _=>trivial
  ·exact fun _ _ _ _ h _=>h
  ·exact fun _ _ _ _ _ _ h=>h
  ·skip
   exact RI 1 (.pointer (some ⟨w.heap.size,0,none⟩))<|J2 (fun hs_=>hs_.val 0) (fun hs_=>(hs_.mv.blk HB0_1.out (fun h=>h)).cell 0 rfl)<|R1 1<|RI 1 (.pointer (some ⟨w.heap.size,0,none⟩))<|J2 (fun hs_=>hs_.val 3) (fun hs_=>(hs_.mv.blk HB0_1.out (fun h=>h)).cell 0 rfl)<|R1 4<|R1 2<|R1 5<|RnEL.nil
  simp only [fse,Ke.value,puts,Act.put,List.setIfInBounds_toArray,List.set_cons_zero,List.set_cons_succ];have HX2:Hid (Ext w w2):=Hi32 hm_.ext;have HB0_2:=Hi32 (hm_.blk HB0_1.out (fun h=>h));clear hm_ he_;have c0_0:=HB0_2.out.cell 0 rfl;go_wp2;go_ret;exact ⟨by rw [emc,if_pos (by omega)];rfl,HX2.out⟩
 ·have k1:¬ kd=1:=by omega
  have k3:¬ kd=3:=by omega
  have k6:(kd == 1)=false:=by simpa using k1
  have k7:(kd != 3)=true:=by simpa using k3
  have k4:¬ kd<1:=by omega
  have k5:3<kd:=h;go_wp2_with fail;refine wp_name (fun W=>Ext w W/\Blk W (w.heap.size) (#[.int .i64 kd,.string val,.slice o1 m1 c1,.slice o2 m2 c2,.slice o3 m3 c3]) 38) ⟨((Ext.refl w).alloc _),(Blk.nw (#[.int .i64 kd,.string val,.slice o1 m1 c1,.slice o2 m2 c2,.slice o3 m3 c3]) 38)⟩ ?_;rintro w1 ⟨e1,bB0_1⟩;have HX1:=Hi32 e1;have HB0_1:=Hi32 bB0_1;have HGEB0:Hid (w.heap.size<=w.heap.size):=Hi32 (Nat.le_refl _);clear e1 bB0_1;refine region_e [.val (.pointer (some ⟨w.heap.size,0,none⟩)),.val (.int .i64 kd),.val (.bool false),.val (.pointer (some ⟨w.heap.size,0,none⟩)),.val (.int .i64 kd),.val (.bool true),.val (.bool false),.val (.bool true)] (fun L g W=>True) (S:=fun _=>False) (by kernel_rfl) (by kernel_rfl) (by kernel_rfl) (Mv.refl HX1.out (fun k h=>h.elim)) ?_ ?_ ?_ ?_ (fun gv_ w2 hm_ he_=>?_)
  ·exact fun _=>trivial
  ·exact fun _ _ _ _ h _=>h
  ·exact fun _ _ _ _ _ _ h=>h
  ·skip
   exact RI 1 (.pointer (some ⟨w.heap.size,0,none⟩))<|J2 (fun hs_=>hs_.val 0) (fun hs_=>(hs_.mv.blk HB0_1.out (fun h=>h)).cell 0 rfl)<|R1 1<|RI 1 (.pointer (some ⟨w.heap.size,0,none⟩))<|J2 (fun hs_=>hs_.val 3) (fun hs_=>(hs_.mv.blk HB0_1.out (fun h=>h)).cell 0 rfl)<|R1 4<|R1 2<|R1 5<|RnEL.nil
  simp only [fse,Ke.value,puts,Act.put,List.setIfInBounds_toArray,List.set_cons_zero,List.set_cons_succ];have HX2:Hid (Ext w w2):=Hi32 hm_.ext;have HB0_2:=Hi32 (hm_.blk HB0_1.out (fun h=>h));clear hm_ he_;have c0_0:=HB0_2.out.cell 0 rfl;go_wp2;go_ret;exact ⟨by rw [emc,if_pos (by omega)];rfl,HX2.out⟩
 ·go_wp2_with fail;refine wp_name (fun W=>Ext w W/\Blk W (w.heap.size) (#[.int .i64 1,.string val,.slice o1 m1 c1,.slice o2 m2 c2,.slice o3 m3 c3]) 38) ⟨((Ext.refl w).alloc _),(Blk.nw (#[.int .i64 1,.string val,.slice o1 m1 c1,.slice o2 m2 c2,.slice o3 m3 c3]) 38)⟩ ?_;rintro w1 ⟨e1,bB0_1⟩;have HX1:=Hi32 e1;have HB0_1:=Hi32 bB0_1;have HGEB0:Hid (w.heap.size<=w.heap.size):=Hi32 (Nat.le_refl _);clear e1 bB0_1;refine region_e [.val (.pointer (some ⟨w.heap.size,0,none⟩)),.val (.int .i64 1),.val (.bool true),.val (.pointer (some ⟨w.heap.size,0,none⟩)),.val (.int .i64 1),.val (.bool true),.val (.bool true),.val (.bool true)] (fun L g W=>True) (S:=fun _=>False) (by kernel_rfl) (by kernel_rfl) (by kernel_rfl) (Mv.refl HX1.out (fun k h=>h.elim)) ?_ ?_ ?_ ?_ (fun gv_ w2 hm_ he_=>?_)
  ·exact fun _=>trivial
  ·exact fun _ _ _ _ h _=>h
  ·exact fun _ _ _ _ _ _ h=>h
  ·skip
   exact RI 1 (.pointer (some ⟨w.heap.size,0,none⟩))<|J2 (fun hs_=>hs_.val 0) (fun hs_=>(hs_.mv.blk HB0_1.out (fun h=>h)).cell 0 rfl)<|R1 1<|RI 1 (.pointer (some ⟨w.heap.size,0,none⟩))<|J2 (fun hs_=>hs_.val 3) (fun hs_=>(hs_.mv.blk HB0_1.out (fun h=>h)).cell 0 rfl)<|R1 4<|R1 2<|R1 5<|RnEL.nil
  simp only [fse,Ke.value,puts,Act.put,List.setIfInBounds_toArray,List.set_cons_zero,List.set_cons_succ];have HX2:Hid (Ext w w2):=Hi32 hm_.ext;have HB0_2:=Hi32 (hm_.blk HB0_1.out (fun h=>h));clear hm_ he_;have c0_0:=HB0_2.out.cell 0 rfl;go_upto_region 4 with fail
  clear c0_0;by_cases hc:m3=0
  ·have zm3:¬ (0:Int)<(m3:Int):=by omega
   have nm3_:=Hi32 hc;clear hc;have c0_0:=HB0_2.out.cell 0 rfl;have c0_4:=HB0_2.out.cell 4 rfl;go_wp2;go_ret;exact ⟨by rw [emc,if_neg (by decide),if_neg (fun h=>h.elim (fun h=>h.1 rfl) (fun h=>h.elim (fun h=>absurd h.1 (by decide)) (fun h=>h.elim (fun h=>absurd h.1 (by decide)) (fun h=>absurd (nm3_.out) (by have:=h.2;omega)))))];rfl,HX2.out⟩
  ·have zm3:(0:Int)<(m3:Int):=by omega
   have c0_0:=HB0_2.out.cell 0 rfl;have c0_4:=HB0_2.out.cell 4 rfl;go_wp2;go_ret;exact ⟨by rw [emc,if_neg (by decide),if_pos (Or.inr (Or.inr (Or.inr ⟨by decide,by omega⟩)))];rfl,HX2.out⟩
 ·go_wp2_with fail;refine wp_name (fun W=>Ext w W/\Blk W (w.heap.size) (#[.int .i64 2,.string val,.slice o1 m1 c1,.slice o2 m2 c2,.slice o3 m3 c3]) 38) ⟨((Ext.refl w).alloc _),(Blk.nw (#[.int .i64 2,.string val,.slice o1 m1 c1,.slice o2 m2 c2,.slice o3 m3 c3]) 38)⟩ ?_;rintro w1 ⟨e1,bB0_1⟩;have HX1:=Hi32 e1;have HB0_1:=Hi32 bB0_1;have HGEB0:Hid (w.heap.size<=w.heap.size):=Hi32 (Nat.le_refl _);clear e1 bB0_1;refine region_e [.val (.pointer (some ⟨w.heap.size,0,none⟩)),.val (.int .i64 2),.val (.bool false),.val (.pointer (some ⟨w.heap.size,0,none⟩)),.val (.int .i64 2),.val (.bool true),.val (.bool false),.val (.bool true)] (fun L g W=>True) (S:=fun _=>False) (by kernel_rfl) (by kernel_rfl) (by kernel_rfl) (Mv.refl HX1.out (fun k h=>h.elim)) ?_ ?_ ?_ ?_ (fun gv_ w2 hm_ he_=>?_)
  ·exact fun _=>trivial
  ·exact fun _ _ _ _ h _=>h
  ·exact fun _ _ _ _ _ _ h=>h
  ·skip
   exact RI 1 (.pointer (some ⟨w.heap.size,0,none⟩))<|J2 (fun hs_=>hs_.val 0) (fun hs_=>(hs_.mv.blk HB0_1.out (fun h=>h)).cell 0 rfl)<|R1 1<|RI 1 (.pointer (some ⟨w.heap.size,0,none⟩))<|J2 (fun hs_=>hs_.val 3) (fun hs_=>(hs_.mv.blk HB0_1.out (fun h=>h)).cell 0 rfl)<|R1 4<|R1 2<|R1 5<|RnEL.nil
  simp only [fse,Ke.value,puts,Act.put,List.setIfInBounds_toArray,List.set_cons_zero,List.set_cons_succ];have HX2:Hid (Ext w w2):=Hi32 hm_.ext;have HB0_2:=Hi32 (hm_.blk HB0_1.out (fun h=>h));clear hm_ he_;have c0_0:=HB0_2.out.cell 0 rfl;go_upto_region 4 with fail
  clear c0_0;by_cases hc:val=⟨#[]⟩
  ·have z1:(val.toList == [])=true:=by rw [hc,toList_data];rfl
   have nv_:=Hi32 hc;clear hc;by_cases hc:m1=0
   ·have zm1:¬ (0:Int)<(m1:Int):=by omega
    have nm1_:=Hi32 hc;clear hc;by_cases hc:m3=0
    ·have zm3:¬ (0:Int)<(m3:Int):=by omega
     have nm3_:=Hi32 hc;clear hc;have c0_1:=HB0_2.out.cell 1 rfl;have c0_0:=HB0_2.out.cell 0 rfl;have c0_2:=HB0_2.out.cell 2 rfl;have c0_4:=HB0_2.out.cell 4 rfl;go_wp2;go_ret;exact ⟨by rw [emc,if_neg (by decide),if_neg (fun h=>h.elim (fun h=>absurd (nv_.out) (by exact h.2)) (fun h=>h.elim (fun h=>absurd (nm1_.out) (by have:=h.2;omega)) (fun h=>h.elim (fun h=>absurd h.1 (by decide)) (fun h=>absurd (nm3_.out) (by have:=h.2;omega)))))];rfl,HX2.out⟩
    ·have zm3:(0:Int)<(m3:Int):=by omega
     have c0_1:=HB0_2.out.cell 1 rfl;have c0_0:=HB0_2.out.cell 0 rfl;have c0_2:=HB0_2.out.cell 2 rfl;have c0_4:=HB0_2.out.cell 4 rfl;go_wp2;go_ret;exact ⟨by rw [emc,if_neg (by decide),if_pos (Or.inr (Or.inr (Or.inr ⟨by decide,by omega⟩)))];rfl,HX2.out⟩
   ·have zm1:(0:Int)<(m1:Int):=by omega
    have c0_1:=HB0_2.out.cell 1 rfl;have c0_0:=HB0_2.out.cell 0 rfl;have c0_2:=HB0_2.out.cell 2 rfl;go_wp2;go_ret;exact ⟨by rw [emc,if_neg (by decide),if_pos (Or.inr (Or.inl ⟨rfl,by omega⟩))];rfl,HX2.out⟩
  ·have z1:(val.toList == [])=false:=tl_ne hc;have c0_1:=HB0_2.out.cell 1 rfl;go_wp2;go_ret;exact ⟨by rw [emc,if_neg (by decide),if_pos (Or.inl ⟨by decide,hc⟩)];rfl,HX2.out⟩
 ·go_wp2_with fail;refine wp_name (fun W=>Ext w W/\Blk W (w.heap.size) (#[.int .i64 3,.string val,.slice o1 m1 c1,.slice o2 m2 c2,.slice o3 m3 c3]) 38) ⟨((Ext.refl w).alloc _),(Blk.nw (#[.int .i64 3,.string val,.slice o1 m1 c1,.slice o2 m2 c2,.slice o3 m3 c3]) 38)⟩ ?_;rintro w1 ⟨e1,bB0_1⟩;have HX1:=Hi32 e1;have HB0_1:=Hi32 bB0_1;have HGEB0:Hid (w.heap.size<=w.heap.size):=Hi32 (Nat.le_refl _);clear e1 bB0_1;refine region_e [.val (.pointer (some ⟨w.heap.size,0,none⟩)),.val (.int .i64 3),.val (.bool false),.val (.pointer (some ⟨w.heap.size,0,none⟩)),.val (.int .i64 3),.val (.bool false),.val (.bool false),.val (.bool false)] (fun L g W=>True) (S:=fun _=>False) (by kernel_rfl) (by kernel_rfl) (by kernel_rfl) (Mv.refl HX1.out (fun k h=>h.elim)) ?_ ?_ ?_ ?_ (fun gv_ w2 hm_ he_=>?_)
  ·exact fun _=>trivial
  ·exact fun _ _ _ _ h _=>h
  ·exact fun _ _ _ _ _ _ h=>h
  ·skip
   exact RI 1 (.pointer (some ⟨w.heap.size,0,none⟩))<|J2 (fun hs_=>hs_.val 0) (fun hs_=>(hs_.mv.blk HB0_1.out (fun h=>h)).cell 0 rfl)<|R1 1<|RI 1 (.pointer (some ⟨w.heap.size,0,none⟩))<|J2 (fun hs_=>hs_.val 3) (fun hs_=>(hs_.mv.blk HB0_1.out (fun h=>h)).cell 0 rfl)<|R1 4<|R1 2<|R1 5<|RnEL.nil
  simp only [fse,Ke.value,puts,Act.put,List.setIfInBounds_toArray,List.set_cons_zero,List.set_cons_succ];have HX2:Hid (Ext w w2):=Hi32 hm_.ext;have HB0_2:=Hi32 (hm_.blk HB0_1.out (fun h=>h));clear hm_ he_;have c0_0:=HB0_2.out.cell 0 rfl;go_upto_region 4 with fail
  clear c0_0;by_cases hc:val=⟨#[]⟩
  ·have z1:(val.toList == [])=true:=by rw [hc,toList_data];rfl
   have nv_:=Hi32 hc;clear hc;by_cases hc:m2=0
   ·have zm2:¬ (0:Int)<(m2:Int):=by omega
    have nm2_:=Hi32 hc;clear hc;have c0_1:=HB0_2.out.cell 1 rfl;have c0_0:=HB0_2.out.cell 0 rfl;have c0_3:=HB0_2.out.cell 3 rfl;go_wp2;go_ret;exact ⟨by rw [emc,if_neg (by decide),if_neg (fun h=>h.elim (fun h=>absurd (nv_.out) (by exact h.2)) (fun h=>h.elim (fun h=>absurd h.1 (by decide)) (fun h=>h.elim (fun h=>absurd (nm2_.out) (by have:=h.2;omega)) (fun h=>h.1 rfl))))];rfl,HX2.out⟩
   ·have zm2:(0:Int)<(m2:Int):=by omega
    have c0_1:=HB0_2.out.cell 1 rfl;have c0_0:=HB0_2.out.cell 0 rfl;have c0_3:=HB0_2.out.cell 3 rfl;go_wp2;go_ret;exact ⟨by rw [emc,if_neg (by decide),if_pos (Or.inr (Or.inr (Or.inl ⟨rfl,by omega⟩)))];rfl,HX2.out⟩
  ·have z1:(val.toList == [])=false:=tl_ne hc;have c0_1:=HB0_2.out.cell 1 rfl;go_wp2;go_ret;exact ⟨by rw [emc,if_neg (by decide),if_pos (Or.inl ⟨by decide,hc⟩)];rfl,HX2.out⟩
theorem sgn_posb (x:Rat):decide (0<x)=decide (0<x.num):=decide_eq_decide.2 ⟨fun h=>by have:=(Rat.lt_iff 0 x).1 h;simpa using this,fun h=>(Rat.lt_iff 0 x).2 (by simpa using h)⟩
theorem clf_go (P:LP) (k q r:Nat) (vb:Value) (x:Nat->Rat) (w:World) (kx:Nat) (g:Gd w) (dx:Option Addr) (dc:Nat) (hB:Blk w kx #[.slice dx P.n dc] 30) (fo:Option Addr) (fcap:Nat) (hf:Rq w (.slice fo P.n fcap) P.n (P.A k)) (hd:Rq w (.slice dx P.n dc) P.n x) (hqa:∀ j,j<P.n->QB q (P.A k j)) (hqx:∀ j,j<P.n->QB r (x j)) (hn:P.n<=60) (hsz:P.n*(q+r+1)<=198):Calls Tryz.prog 155 #[.agg #[.slice fo P.n fcap,vb],.pointer (some ⟨kx,0,none⟩)] w (Ret w (.bool (decide (0<(smq P.n (fun j=>P.A k j*x j)))))):=by
 have HG:=Hi32 g;have HBx:=Hi32 hB;have HF:=Hi32 hf;have HD:=Hi32 hd;have HQA:=Hi32 hqa;have HQX:=Hi32 hqx;clear g hB hf hd hqa hqx;have HQD:=Hi32 ((smq_qb HQA.out HQX.out P.n (Nat.le_refl _)).mono (dot_sz (Nat.le_refl _) hsz));go_enter Tryz.func155,Tryz.ntmps155;go_upto_region 1 with fail
 refine wp_name (fun W=>Ext w W/\Blk W (kx) (#[.slice dx P.n dc]) 30/\Blk W (w.heap.size) (#[.slice fo P.n fcap,vb]) 97) ⟨((Ext.refl w).alloc _),(HBx.out.alloc _),(Blk.nw (#[.slice fo P.n fcap,vb]) 97)⟩ ?_;rintro w1 ⟨e1,bBx_1,bB0_1⟩;have HX1:=Hi32 e1;have HBx_1:=Hi32 bBx_1;have HB0_1:=Hi32 bB0_1;have HGEB0:Hid (w.heap.size<=w.heap.size):=Hi32 (Nat.le_refl _);clear e1 bBx_1 bB0_1;have c0_0:=HB0_1.out.cell 0 rfl;have cx_0:=HBx_1.out.cell (0) rfl;go_wp2_with fail;refine (dot_c _ _ P.n (P.A k) x _ (HG.out.ext (HX1.out)) (HF.out.ext HX1.out) (HD.out.ext HX1.out) HQA.out HQX.out (by omega) hsz).mono ?_;rintro e w2 ⟨rfl,e2⟩;have HX2:=Hi32 (HX1.out.trans e2);clear e2 c0_0 cx_0;go_wp2_with fail;refine (rsign_c (smq P.n (fun j=>P.A k j*x j)) _).mono ?_;rintro e _ ⟨rfl,rfl⟩;go_wp2;go_ret;exact ⟨by rw [sgn_posb];rfl,HX2.out⟩
theorem ix2_g (ao_:Option Addr) (n cap fn:Nat) (cp:Array Value) (a b:Nat->Value) (is:Nat->Bool) (w:World) (hl:∀ i,i<n->∃ la o,ao_=some ⟨la,o,none⟩/\w.cell? ⟨la,o+i*2,none⟩=some (a i)/\w.cell? ⟨la,o+i*2+1,none⟩=some (b i)) (hcl:∀ W,Ext w W->∀ k:Nat,k<n->Calls Tryz.prog fn (#[.agg #[a k,b k]] ++ cp) W (Ret W (.bool (is k)))) (hn:n<=1000000) (hcf:∀ a_ W,(callFunc fn a_).run Tryz.prog W = .ok (.enter fn a_) W):Calls Tryz.prog 225 #[.slice ao_ n cap,.func (.func fn) #[] cp] w (Ret w (.int .i64 (fi is n))):=by
 have HL:=Hi32 hl;have HCL:=Hi32 hcl;clear hl hcl;go_enter Tryz.func225,Tryz.ntmps225;go_wp2_with fail;go_loopw [8] (fun x0_ wx=>∃ k:Nat,x0_ = .int .i64 k/\k<=n/\Hid (∀ i,i<k->is i=false)/\Hid (Ext w wx)) (fun x0_ _=>n-(intOf x0_).toNat)
 case atStart=>exact ⟨0,rfl,Nat.zero_le _,Hi32 (fun i hi=>absurd hi (Nat.not_lt_zero i)),Hi32 (Ext.refl w)⟩
 case round =>
  rename World=>w1
  obtain ⟨k,rfl,hkk,HGk,HH⟩:=hrel;have HX1:=Hi32 HH.out;clear HH;by_cases hlt:k<n
  ·have hlt2:(k:Int)<((n:Nat):Int):=by omega
   obtain ⟨la,o_,rfl,zl_,zm_⟩:=HL.out k hlt;have HCl:=Hi32 zl_;have HCm:=Hi32 zm_;clear zl_ zm_;by_cases hi:is k=true
   ·have HIS:=Hi32 hi;clear hi;have cl_o____k___2:=keepA HX1.out (HCl.out);have cl_o____k___2___1:=keepA HX1.out (HCm.out);go_wp2_with fail;refine ((HIS.out▸HCL.out _ HX1.out k hlt)).mono ?_;rintro e w2 ⟨rfl,e2⟩;have HX2:=Hi32 (HX1.out.trans e2);clear e2 cl_o____k___2 cl_o____k___2___1;go_wp2;go_ret;exact ⟨by rw [fi_hit hlt HGk.out HIS.out];rfl,HX2.out⟩
   ·have HIS:Hid (is k=false):=Hi32 (by simpa using hi);clear hi;have cl_o____k___2:=keepA HX1.out (HCl.out);have cl_o____k___2___1:=keepA HX1.out (HCm.out);go_wp2_with fail;refine ((HIS.out▸HCL.out _ HX1.out k hlt)).mono ?_;rintro e w2 ⟨rfl,e2⟩;have HX2:=Hi32 (HX1.out.trans e2);clear e2 cl_o____k___2 cl_o____k___2___1;go_wp2_with fail;go_roundw
    case rel=>exact ⟨k+1,by go_num,by omega,Hi32 (fi_step HGk.out HIS.out),Hi32 HX2.out⟩
    case measure=>simp [intOf];omega
  ·have hk2:k=n:=by omega
   have hge:¬ (k:Int)<((n:Nat):Int):=by omega
   go_wp2;go_ret;exact ⟨by rw [fi_miss (by rw [← hk2];exact HGk.out)];rfl,HX1.out⟩
theorem cf2_g (ao_:Option Addr) (n cap fn:Nat) (cp:Array Value) (a b:Nat->Value) (is:Nat->Bool) (w:World) (hl:∀ i,i<n->∃ la o,ao_=some ⟨la,o,none⟩/\w.cell? ⟨la,o+i*2,none⟩=some (a i)/\w.cell? ⟨la,o+i*2+1,none⟩=some (b i)) (hcl:∀ W,Ext w W->∀ k:Nat,k<n->Calls Tryz.prog fn (#[.agg #[a k,b k]] ++ cp) W (Ret W (.bool (is k)))) (hn:n<=1000000) (hcf:∀ a_ W,(callFunc fn a_).run Tryz.prog W = .ok (.enter fn a_) W):Calls Tryz.prog 154 #[.slice ao_ n cap,.func (.func fn) #[] cp] w (Ret w (.bool (any_ is n))):=by
 have HL:=Hi32 hl;have HCL:=Hi32 hcl;clear hl hcl;go_enter Tryz.func154,Tryz.ntmps154;go_wp2_with fail;refine (ix2_g ao_ n cap fn cp a b is w HL.out HCL.out hn hcf).mono ?_;rintro e w1 ⟨rfl,e1⟩;have HX1:Hid (Ext w w1):=Hi32 ((Ext.refl w).trans e1);clear e1;go_wp2;go_ret;exact ⟨by rw [← fi_any];rfl,HX1.out⟩
def rwp (P:LP) (x:Nat->Rat) (k:Nat):Bool:=decide (0<(smq P.n (fun j=>P.A k j*x j)))
noncomputable def fac (P:LP) (t:Nat->ByteArray) (m:Nat):Int:=open Classical in if lerr t m P.n≠0 then lerr t m P.n else if P.obj (yq t)<0/\(∀ k,k<P.m->(smq P.n (fun j=>P.A k j*yq t j))<=0) then 0 else 23
theorem row_yes {P:LP} {x:Nat->Rat} (h:any_ (rwp P x) P.m=true) (h2:∀ k,k<P.m->(smq P.n (fun j=>P.A k j*x j))<=0):False:=by
 obtain ⟨i,hi,e⟩:=any_true.1 h;rw [rwp,decide_eq_true_iff] at e;have:=h2 i hi;grind
theorem row_no {P:LP} {x:Nat->Rat} (h:any_ (rwp P x) P.m=false):∀ k,k<P.m->(smq P.n (fun j=>P.A k j*x j))<=0:=fun k hk=>by
 have:=any_false.1 h k hk;rw [rwp,decide_eq_false_iff_not] at this;grind
theorem rows_any {P:LP} {q r kx dc:Nat} {vr vc:Value} {va:Nat->Value} {w:World} {dx:Option Addr} {x:Nat->Rat} (g:Gd w) (hP:PM P w vr vc va) (hB:Blk w kx #[.slice dx P.n dc] 30) (hd:Rq w (.slice dx P.n dc) P.n x) (hqa:∀ i,i<P.m->∀ j,j<P.n->QB q (P.A i j)) (hqx:∀ j,j<P.n->QB r (x j)) (hn:P.n<=60) (hm:P.m<=300) (hsz:P.n*(q+r+1)<=198) :
    Calls Tryz.prog 154 #[vr,.func (.func 155) #[] #[.pointer (some ⟨kx,0,none⟩)]] w (Ret w (.bool (any_ (rwp P x) P.m))):=by
 obtain ⟨ro,rcap,rfl,_,_,hrr⟩:=hP.rows;exact cf2_g ro P.m rcap 155 #[.pointer (some ⟨kx,0,none⟩)] va (fun i => .string (qs (P.B i))) (rwp P x) w hrr (fun W e k hk=>by
  have hf:=hP.fac k hk;obtain ⟨fo,fcap,ef,h2⟩:=hf;rw [ef];exact clf_go P k q r (.string (qs (P.B k))) x W kx (g.ext e) dx dc (hB.ext e) fo fcap (Rd.ext ⟨fo,fcap,rfl,h2⟩ e) (hd.ext e) (hqa k hk) hqx hn hsz) (by omega) (fun _ _=>by kernel_rfl)
theorem pfalls_c (P:LP) (vr vc:Value) (va:Nat->Value) (q:Nat) (w:World) (g:Gd w) (hP:PM P w vr vc va) (vy:Value) (m:Nat) (t:Nat->ByteArray) (r:Nat) (hT:Rs w vy m t) (hts:∀ i,i<m->(t i).size<=1000000) (hm6:m<=1000000) (hq:TxQ t m r) (hr2:r<=200) (hsz:P.n*(q+r+1)<=198) (qc:∀ j,j<P.n->QB q (P.C j)) (Q:PQ P) (hn:P.n<=60) (hm:P.m<=300) (hq1:1<=q) (hq2:q<=200) (qa:∀ i,i<P.m->∀ j,j<P.n->QB q (P.A i j)):Calls Tryz.prog 76 #[.agg #[.int .i64 (P.n:Int),vr,vc],vy] w (Ret w (.int .i64 (fac P t m))):=by
 have HPM:=Hi32 hP;have HT:=Hi32 hT;have HTS:=Hi32 hts;have HTQ:=Hi32 hq;have HQC:=Hi32 qc;have HG:=Hi32 g;have HQA:=Hi32 qa;have HQP:=Hi32 Q;clear hP hT hts hq qc g qa Q;have HPO:=Hi32 HPM.out.obj;have HPF:=Hi32 HPM.out.fac;obtain ⟨co,ccap,ec_,_⟩:=HPM.out.obj;obtain ⟨ro,rcap,er_,_,_,hrr⟩:=HPM.out.rows;subst er_ ec_;have HRR:=Hi32 hrr;clear hrr;have HT0:=Hi32 HT.out;obtain ⟨yo,ycap,ey_,_,_,hyy⟩:=HT.out;subst ey_;clear hyy;go_enter Tryz.func76,Tryz.ntmps76;go_upto_region 1 with fail
 refine wp_name (fun W=>Ext w W/\Blk W (w.heap.size) (#[.int .i64 (P.n:Int),.slice ro P.m rcap,.slice co P.n ccap]) 32/\Blk W (w.heap.size+1) (#[.slice yo m ycap]) 30) ⟨(((Ext.refl w).alloc _).alloc _),((Blk.nw (#[.int .i64 (P.n:Int),.slice ro P.m rcap,.slice co P.n ccap]) 32).alloc _),(Blk.nw (#[.slice yo m ycap]) 30)⟩ ?_;rintro w1 ⟨e1,bB0_1,bB1_1⟩;have HX1:=Hi32 e1;have HB0_1:=Hi32 bB0_1;have HB1_1:=Hi32 bB1_1;have HGEB0:Hid (w.heap.size<=w.heap.size):=Hi32 (Nat.le_refl _);have HGEB1:Hid (w.heap.size<=w.heap.size+1):=Hi32 (by omega);clear e1 bB0_1 bB1_1;by_cases hle:lerr t m P.n≠0
 ·have hz2:¬ lerr t m P.n=0:=hle;have c1_0:=HB1_1.out.cell 0 rfl;have c0_0:=HB0_1.out.cell 0 rfl;go_wp2_with fail;refine (plist_c (HG.out.ext (HX1.out)) (HT0.out.ext HX1.out) HTS.out hm6).mono ?_;rintro e w2 ⟨rfl,e2⟩;have HX2:=Hi32 (HX1.out.trans e2);have HB0_2:=Hi32 (HB0_1.out.ext e2);have HB1_2:=Hi32 (HB1_1.out.ext e2);clear e2 c1_0 c0_0;go_wp2;go_ret;exact ⟨by rw [fac,if_pos hle];rfl,HX2.out⟩
 ·have hle:=Classical.not_not.1 hle;obtain ⟨rfl,hx_⟩:=lerr_ok hle HTQ.out;have HX_:=Hi32 hx_;clear hx_;have HDX:Hid (Rq w (.slice yo P.n ycap) P.n (yq t)):=Hi32 (HT0.out.congr fun i hi=>by rw [← (HX_.out i hi).1]);have HQX:Hid (∀ j,j<P.n->QB r (yq t j)):=Hi32 (fun j hj=>(HX_.out j hj).2);have HQO:Hid (QB 199 (P.obj (yq t))):=Hi32 ((smq_qb HQC.out HQX.out P.n (Nat.le_refl _)).mono (dot_sz (Nat.le_refl _) hsz));have HLE:Hid (lerr t P.n P.n=0):=Hi32 hle;clear hle;have c1_0:=HB1_1.out.cell 0 rfl;have c0_0:=HB0_1.out.cell 0 rfl;go_wp2_with fail;refine (plist_y (HDX.out.ext HX1.out) (HG.out.ext (HX1.out)) (fun j hj=>(HQX.out j hj).mono hr2) hm6).mono ?_;rintro e w2 ⟨rfl,e2⟩;have HX2:=Hi32 (HX1.out.trans e2);have HB0_2:=Hi32 (HB0_1.out.ext e2);have HB1_2:=Hi32 (HB1_1.out.ext e2);clear e2 c1_0 c0_0;go_upto_region 4 with fail
  rcases sgn3 (P.obj (yq t)) with ⟨h1,h2⟩|⟨h1,h2⟩|⟨h1,h2⟩
  ·have HSG:=Hi32 h1;clear h1;by_cases hz:any_ (rwp P (yq t)) P.m=true
   ·have HAN:=Hi32 hz;have c0_2:=HB0_2.out.cell 2 rfl;have c1_0:=HB1_2.out.cell 0 rfl;go_wp2_with fail;refine (dot_c _ _ P.n P.C (yq t) _ (HG.out.ext (HX2.out)) (HPO.out.ext HX2.out) (HDX.out.ext HX2.out) HQC.out HQX.out (by omega) hsz).mono ?_;rintro e w3 ⟨rfl,e3⟩;have HX3:=Hi32 (HX2.out.trans e3);have HB0_3:=Hi32 (HB0_2.out.ext e3);have HB1_3:=Hi32 (HB1_2.out.ext e3);clear e3 c0_2 c1_0;go_wp2_with fail;refine ((HSG.out▸rsign_c (P.obj (yq t)) _)).mono ?_;rintro e _ ⟨rfl,rfl⟩;have c0_1:=HB0_3.out.cell 1 rfl;go_wp2_with fail;refine ((HAN.out▸rows_any (HG.out.ext (HX3.out)) (HPM.out.ext HX3.out) HB1_3.out (HDX.out.ext HX3.out) HQA.out HQX.out hn hm hsz)).mono ?_;rintro e w4 ⟨rfl,e4⟩;have HX4:=Hi32 (HX3.out.trans e4);have HB1_4:=Hi32 (HB1_3.out.ext e4);clear e4 c0_1;go_wp2;go_ret;exact ⟨by rw [fac,if_neg (fun h=>h HLE.out),if_neg (fun h=>row_yes hz h.2)];rfl,HX4.out⟩
   ·have hz3:any_ (rwp P (yq t)) P.m=false:=by simpa using hz
    have HAN:=Hi32 hz3;have c0_2:=HB0_2.out.cell 2 rfl;have c1_0:=HB1_2.out.cell 0 rfl;go_wp2_with fail;refine (dot_c _ _ P.n P.C (yq t) _ (HG.out.ext (HX2.out)) (HPO.out.ext HX2.out) (HDX.out.ext HX2.out) HQC.out HQX.out (by omega) hsz).mono ?_;rintro e w3 ⟨rfl,e3⟩;have HX3:=Hi32 (HX2.out.trans e3);have HB0_3:=Hi32 (HB0_2.out.ext e3);have HB1_3:=Hi32 (HB1_2.out.ext e3);clear e3 c0_2 c1_0;go_wp2_with fail;refine ((HSG.out▸rsign_c (P.obj (yq t)) _)).mono ?_;rintro e _ ⟨rfl,rfl⟩;have c0_1:=HB0_3.out.cell 1 rfl;go_wp2_with fail;refine ((HAN.out▸rows_any (HG.out.ext (HX3.out)) (HPM.out.ext HX3.out) HB1_3.out (HDX.out.ext HX3.out) HQA.out HQX.out hn hm hsz)).mono ?_;rintro e w4 ⟨rfl,e4⟩;have HX4:=Hi32 (HX3.out.trans e4);have HB1_4:=Hi32 (HB1_3.out.ext e4);clear e4 c0_1;go_wp2;go_ret;exact ⟨by rw [fac,if_neg (fun h=>h HLE.out),if_pos ⟨h2,row_no HAN.out⟩];rfl,HX4.out⟩
  ·have HSG:=Hi32 h1;clear h1;have c0_2:=HB0_2.out.cell 2 rfl;have c1_0:=HB1_2.out.cell 0 rfl;go_wp2_with fail;refine (dot_c _ _ P.n P.C (yq t) _ (HG.out.ext (HX2.out)) (HPO.out.ext HX2.out) (HDX.out.ext HX2.out) HQC.out HQX.out (by omega) hsz).mono ?_;rintro e w3 ⟨rfl,e3⟩;have HX3:=Hi32 (HX2.out.trans e3);have HB0_3:=Hi32 (HB0_2.out.ext e3);have HB1_3:=Hi32 (HB1_2.out.ext e3);clear e3 c0_2 c1_0;go_wp2_with fail;refine ((HSG.out▸rsign_c (P.obj (yq t)) _)).mono ?_;rintro e _ ⟨rfl,rfl⟩;go_wp2;go_ret;exact ⟨by rw [fac,if_neg (fun h=>h HLE.out),if_neg (fun h=>absurd h.1 h2)];rfl,HX3.out⟩
  ·have HSG:=Hi32 h1;clear h1;have c0_2:=HB0_2.out.cell 2 rfl;have c1_0:=HB1_2.out.cell 0 rfl;go_wp2_with fail;refine (dot_c _ _ P.n P.C (yq t) _ (HG.out.ext (HX2.out)) (HPO.out.ext HX2.out) (HDX.out.ext HX2.out) HQC.out HQX.out (by omega) hsz).mono ?_;rintro e w3 ⟨rfl,e3⟩;have HX3:=Hi32 (HX2.out.trans e3);have HB0_3:=Hi32 (HB0_2.out.ext e3);have HB1_3:=Hi32 (HB1_2.out.ext e3);clear e3 c0_2 c1_0;go_wp2_with fail;refine ((HSG.out▸rsign_c (P.obj (yq t)) _)).mono ?_;rintro e _ ⟨rfl,rfl⟩;go_wp2;go_ret;exact ⟨by rw [fac,if_neg (fun h=>h HLE.out),if_neg (fun h=>absurd h.1 h2)];rfl,HX3.out⟩
noncomputable def vfy (P:LP) (kd:Int) (val:ByteArray) (t1:Nat->ByteArray) (m1:Nat) (t2:Nat->ByteArray) (m2:Nat) (t3:Nat->ByteArray) (m3:Nat):Int :=
 if emc kd val m1 m2 m3≠0 then emc kd val m1 m2 m3 else if kd=2 then rfc P t2 m2 else if lerr t1 m1 P.n≠0 then lerr t1 m1 P.n else if 0<(fil (vio P (yq t1)) P.m).length then 23 else if kd=3 then fac P t3 m3
 else if rq val=true then (if (bdc P t2 m2).2≠0 then (bdc P t2 m2).2 else if (bdc P t2 m2).1≠val∨qs (P.obj (yq t1))≠val then 23 else 0) else 2
theorem emc_kd {kd:Int} {val:ByteArray} {a b c:Nat} (h:emc kd val a b c=0):kd=1∨kd=2∨kd=3:=by
 rw [emc] at h;split at h
 ·exact absurd h (by decide)
 ·omega
theorem tl_ne2 {a b:ByteArray} (h:¬ a=b):(a.toList == b.toList)=false:=by
 rw [toList_data,toList_data];rcases a with ⟨⟨m⟩⟩;rcases b with ⟨⟨n⟩⟩;simpa using fun e=>h (by rw [e])
theorem tl_eq2 {a b:ByteArray} (h:a=b):(a.toList == b.toList)=true:=by rw [h];exact beq_self_eq_true _
theorem Osl.lsl {X w:World} {t:TypeId} {sz n:Nat} {v:Value} {G:Nat->Value} (h:Osl X w t sz v n G):∃ a c,v = .slice a n c:=by
 rcases h with ⟨rfl,rfl⟩|⟨k,cap,C,rfl,_⟩
 ·exact ⟨_,_,rfl⟩
 ·exact ⟨_,_,rfl⟩
theorem pverify_c (P:LP) (vr vc:Value) (va:Nat->Value) (q:Nat) (w:World) (g:Gd w) (hP:PM P w vr vc va) (kd:Int) (val:ByteArray) (hvs:val.size<=1000000) (o1:Option Addr) (m1 c1:Nat) (o2:Option Addr) (m2 c2:Nat) (o3:Option Addr) (m3 c3:Nat) (r:Nat) (t1:Nat->ByteArray) (hT1:Rs w (.slice o1 m1 c1) m1 t1) (hts1:∀ i,i<m1->(t1 i).size<=1000000) (hm1:m1<=1000000) (hq1_:TxQ t1 m1 r) (t2:Nat->ByteArray) (hT2:Rs w (.slice o2 m2 c2) m2 t2) (hts2:∀ i,i<m2->(t2 i).size<=1000000) (hm2:m2<=1000000) (hq2_:TxQ t2 m2 r) (t3:Nat->ByteArray) (hT3:Rs w (.slice o3 m3 c3) m3 t3) (hts3:∀ i,i<m3->(t3 i).size<=1000000) (hm3:m3<=1000000) (hq3_:TxQ t3 m3 r) (hr2:r<=200) (hsz:P.n*(q+r+1)<=198) (hsz2:P.m*(r+q+1)<=198) (qb:∀ i,i<P.m->QB q (P.B i)) (qc:∀ j,j<P.n->QB q (P.C j)) (Q:PQ P) (hn:P.n<=60) (hm:P.m<=300) (hq1:1<=q) (hq2:q<=200) (qa:∀ i,i<P.m->∀ j,j<P.n->QB q (P.A i j)):Calls Tryz.prog 23 #[.agg #[.int .i64 (P.n:Int),vr,vc],.agg #[.int .i64 kd,.string val,.slice o1 m1 c1,.slice o2 m2 c2,.slice o3 m3 c3]] w (Ret w (.int .i64 (vfy P kd val t1 m1 t2 m2 t3 m3))):=by
 have HPM:=Hi32 hP;have HT1:=Hi32 hT1;have HT2:=Hi32 hT2;have HT3:=Hi32 hT3;have HS1:=Hi32 hts1;have HS2:=Hi32 hts2;have HS3:=Hi32 hts3;have HQ1:=Hi32 hq1_;have HQ2:=Hi32 hq2_;have HQ3:=Hi32 hq3_;have HQB:=Hi32 qb;have HQC:=Hi32 qc;have HG:=Hi32 g;have HQA:=Hi32 qa;have HQP:=Hi32 Q;clear hP hT1 hT2 hT3 hts1 hts2 hts3 hq1_ hq2_ hq3_ qb qc g qa Q;have HPO:=Hi32 HPM.out.obj;have HPF:=Hi32 HPM.out.fac;obtain ⟨co,ccap,ec_,_⟩:=HPM.out.obj;obtain ⟨ro,rcap,er_,_,_,hrr⟩:=HPM.out.rows;subst er_ ec_;have HRR:=Hi32 hrr;clear hrr;go_enter Tryz.func23,Tryz.ntmps23;go_wp2_with fail;refine (check_go P _ _ va _ (HG.out.ext ((((Ext.refl w).alloc _).alloc _))) (HPM.out.ext (((Ext.refl w).alloc _).alloc _)) HQP.out hn hm).mono ?_;rintro e w1 ⟨rfl,e1⟩;have HX1:Hid (Ext w w1):=Hi32 ((((Ext.refl w).alloc _).alloc _).trans e1);have HB0_1:Hid (Blk w1 (w.heap.size) (#[.int .i64 (P.n:Int),.slice ro P.m rcap,.slice co P.n ccap]) 32):=Hi32 ((((Blk.nw (#[.int .i64 (P.n:Int),.slice ro P.m rcap,.slice co P.n ccap]) 32).alloc _)).ext e1);have HB1_1:Hid (Blk w1 (w.heap.size+1) (#[.int .i64 kd,.string val,.slice o1 m1 c1,.slice o2 m2 c2,.slice o3 m3 c3]) 38):=Hi32 (((Blk.nw (#[.int .i64 kd,.string val,.slice o1 m1 c1,.slice o2 m2 c2,.slice o3 m3 c3]) 38)).ext e1);have HGEB0:Hid (w.heap.size<=w.heap.size):=Hi32 (Nat.le_refl _);have HGEB1:Hid (w.heap.size<=w.heap.size+1):=Hi32 (by omega);clear e1;go_upto_region 4 with fail
 by_cases he:emc kd val m1 m2 m3≠0
 ·have hz2:¬ emc kd val m1 m2 m3=0:=he;have c1_0:=HB1_1.out.cell 0 rfl;have c1_1:=HB1_1.out.cell 1 rfl;have c1_2:=HB1_1.out.cell 2 rfl;have c1_3:=HB1_1.out.cell 3 rfl;have c1_4:=HB1_1.out.cell 4 rfl;go_wp2_with fail;refine (pempty_c _ _ _ _ _ _ _ _ _ _ _ _).mono ?_;rintro e w2 ⟨rfl,e2⟩;have HX2:=Hi32 (HX1.out.trans e2);have HB0_2:=Hi32 (HB0_1.out.ext e2);have HB1_2:=Hi32 (HB1_1.out.ext e2);clear e2 c1_0 c1_1 c1_2 c1_3 c1_4;go_wp2;go_ret;exact ⟨by rw [vfy,if_pos he];rfl,HX2.out⟩
 ·have he:=Classical.not_not.1 he;have HEM:=Hi32 he;clear he;have c1_0:=HB1_1.out.cell 0 rfl;have c1_1:=HB1_1.out.cell 1 rfl;have c1_2:=HB1_1.out.cell 2 rfl;have c1_3:=HB1_1.out.cell 3 rfl;have c1_4:=HB1_1.out.cell 4 rfl;go_wp2_with fail;refine ((HEM.out▸pempty_c _ _ _ _ _ _ _ _ _ _ _ _)).mono ?_;rintro e w2 ⟨rfl,e2⟩;have HX2:=Hi32 (HX1.out.trans e2);have HB0_2:=Hi32 (HB0_1.out.ext e2);have HB1_2:=Hi32 (HB1_1.out.ext e2);clear e2 c1_0 c1_1 c1_2 c1_3 c1_4;go_upto_region 7 with fail
  rcases emc_kd HEM.out with rfl|rfl|rfl
  ·have c1_0:=HB1_2.out.cell 0 rfl;go_upto_region 9 with fail
   clear c1_0;by_cases hle:lerr t1 m1 P.n≠0
   ·have hz2:¬ lerr t1 m1 P.n=0:=hle;have c0_0:=HB0_2.out.cell 0 rfl;have c0_1:=HB0_2.out.cell 1 rfl;have c0_2:=HB0_2.out.cell 2 rfl;have c1_2:=HB1_2.out.cell 2 rfl;go_wp2_with fail;refine (pviol_bad P _ _ va q _ (HG.out.ext (HX2.out)) (HPM.out.ext HX2.out) _ m1 t1 (HT1.out.ext HX2.out) HS1.out hm1 hle HQP.out hn hm hq1 hq2 HQA.out).mono ?_;rintro e w3 ⟨rfl,e3⟩;have HX3:=Hi32 (HX2.out.trans e3);have HB0_3:=Hi32 (HB0_2.out.ext e3);have HB1_3:=Hi32 (HB1_2.out.ext e3);clear e3 c0_0 c0_1 c0_2 c1_2;go_wp2;go_ret;exact ⟨by rw [vfy,if_neg (fun h=>h HEM.out),if_neg (show ¬ ((1:Int)=2) by decide),if_pos hle];rfl,HX3.out⟩
   ·have hle:=Classical.not_not.1 hle;obtain ⟨em1_,hx_⟩:=lerr_ok hle HQ1.out;have HX_:=Hi32 hx_;clear hx_;have HX1R:Hid (Rq w (.slice o1 m1 c1) P.n (yq t1)):=Hi32 (em1_▸HT1.out.congr fun i hi=>by rw [← (HX_.out i hi).1]);have HXQ:Hid (∀ j,j<P.n->QB r ((yq t1) j)):=Hi32 (fun j hj=>(HX_.out j (by omega)).2);have HLE:Hid (lerr t1 m1 P.n=0):=Hi32 hle;clear hle em1_;have c0_0:=HB0_2.out.cell 0 rfl;have c0_1:=HB0_2.out.cell 1 rfl;have c0_2:=HB0_2.out.cell 2 rfl;have c1_2:=HB1_2.out.cell 2 rfl;go_wp2_with fail;refine (pviol_c P _ _ va q _ (HG.out.ext (HX2.out)) (HPM.out.ext HX2.out) _ (yq t1) r (HX1R.out.ext HX2.out) HXQ.out hr2 hsz HQP.out hn hm hq1 hq2 HQA.out).mono ?_;rintro e w3 ⟨v_,rfl,e3,fl_⟩;have HX3:=Hi32 (HX2.out.trans e3);have HB0_3:=Hi32 (HB0_2.out.ext e3);have HB1_3:=Hi32 (HB1_2.out.ext e3);clear e3 c0_0 c0_1 c0_2 c1_2;obtain ⟨la,lc,rfl⟩:=fl_.lsl;clear fl_;go_upto_region 12 with fail
    by_cases hv:0<(fil (vio P (yq t1)) P.m).length
    ·have hz2:(0:Int)<(((fil (vio P (yq t1)) P.m).length:Nat):Int):=by omega
     go_wp2;go_ret;exact ⟨by rw [vfy,if_neg (fun h=>h HEM.out),if_neg (show ¬ ((1:Int)=2) by decide),if_neg (fun h=>h HLE.out),if_pos hv];rfl,HX3.out⟩
    ·have hz2:¬ (0:Int)<(((fil (vio P (yq t1)) P.m).length:Nat):Int):=by omega
     have HV:=Hi32 hv;clear hv;have c1_0:=HB1_3.out.cell 0 rfl;go_upto_region 16 with fail
     clear c1_0;by_cases hv:rq val=true
     ·have h3:(!rq val)=false:=by rw [hv];rfl
      have HRV:=Hi32 h3;have HRQ:=Hi32 hv;clear h3 hv;have c1_1:=HB1_3.out.cell 1 rfl;go_wp2_with fail;refine ((HRV.out▸wrong_c val _ (HG.out.ext (HX3.out)) hvs)).mono ?_;rintro e w4 ⟨rfl,e4⟩;have HX4:=Hi32 (HX3.out.trans e4);have HB0_4:=Hi32 (HB0_3.out.ext e4);have HB1_4:=Hi32 (HB1_3.out.ext e4);clear e4 c1_1;go_upto_region 18 with fail
      by_cases hb:(bdc P t2 m2).2≠0
      ·have hz2:¬ (bdc P t2 m2).2=0:=hb;have c0_0:=HB0_4.out.cell 0 rfl;have c0_1:=HB0_4.out.cell 1 rfl;have c0_2:=HB0_4.out.cell 2 rfl;have c1_3:=HB1_4.out.cell 3 rfl;go_wp2_with fail;refine (pbound_c P _ _ va q _ (HG.out.ext (HX4.out)) (HPM.out.ext HX4.out) _ m2 t2 r (HT2.out.ext HX4.out) HS2.out hm2 HQ2.out hr2 hsz2 HQB.out HQP.out hn hm hq1 hq2 HQA.out).mono ?_;rintro e w5 ⟨rfl,e5⟩;have HX5:=Hi32 (HX4.out.trans e5);have HB0_5:=Hi32 (HB0_4.out.ext e5);have HB1_5:=Hi32 (HB1_4.out.ext e5);clear e5 c0_0 c0_1 c0_2 c1_3;go_wp2;go_ret;exact ⟨by rw [vfy,if_neg (fun h=>h HEM.out),if_neg (show ¬ ((1:Int)=2) by decide),if_neg (fun h=>h HLE.out),if_neg HV.out,if_neg (show ¬ ((1:Int)=3) by decide),if_pos HRQ.out,if_pos hb];rfl,HX5.out⟩
      ·have hb:=Classical.not_not.1 hb;have HBZ:=Hi32 hb;clear hb;have c0_0:=HB0_4.out.cell 0 rfl;have c0_1:=HB0_4.out.cell 1 rfl;have c0_2:=HB0_4.out.cell 2 rfl;have c1_3:=HB1_4.out.cell 3 rfl;go_wp2_with fail;refine ((HBZ.out▸pbound_c P _ _ va q _ (HG.out.ext (HX4.out)) (HPM.out.ext HX4.out) _ m2 t2 r (HT2.out.ext HX4.out) HS2.out hm2 HQ2.out hr2 hsz2 HQB.out HQP.out hn hm hq1 hq2 HQA.out)).mono ?_;rintro e w5 ⟨rfl,e5⟩;have HX5:=Hi32 (HX4.out.trans e5);have HB0_5:=Hi32 (HB0_4.out.ext e5);have HB1_5:=Hi32 (HB1_4.out.ext e5);clear e5 c0_0 c0_1 c0_2 c1_3;go_upto_region 21 with fail
       by_cases h1:(bdc P t2 m2).1=val
       ·have z1:=tl_eq2 h1;have HB1_:=Hi32 h1;clear h1;by_cases h2:qs (P.obj (yq t1))=val
        ·have z2:=tl_eq2 h2;have HB2_:=Hi32 h2;clear h2;go_wp2_with fail;refine region_e [.val (.string ((bdc P t2 m2).1)),.val (.pointer (some ⟨w.heap.size+1,1,none⟩)),.val (.string val),.val (.bool false),.val (.bool false),.val (.pointer (some ⟨w.heap.size,2,none⟩)),.val (.slice co P.n ccap),.val (.pointer (some ⟨w.heap.size+1,2,none⟩)),.val (.slice o1 m1 c1),.val (.string (qs (P.obj (yq t1)))),.val (.pointer (some ⟨w.heap.size+1,1,none⟩)),.val (.string val),.val (.bool false),.val (.bool false),.val (.bool false)] (fun L g W=>True) (S:=fun _=>False) (by kernel_rfl) (by kernel_rfl) (by kernel_rfl) (Mv.refl HX5.out (fun k h=>h.elim)) ?_ ?_ ?_ ?_ (fun gv_ w6 hm_ he_=>?_)
         ·exact fun _=>trivial
         ·exact fun _ _ _ _ h _=>h
         ·exact fun _ _ _ _ _ _ h=>h
         ·skip
          refine RI 9 (.string ((bdc P t2 m2).1))<|RI 3 (.pointer (some ⟨w.heap.size+1,0,none⟩))<|J2 (fun hs_=>hs_.val 1) (fun hs_=>(hs_.mv.blk HB1_5.out (fun h=>h)).cell 1 rfl)<|R2 0 2<|R1 3<|RI 2 (.pointer (some ⟨w.heap.size,0,none⟩))<|J2 (fun hs_=>hs_.val 5) (fun hs_=>(hs_.mv.blk HB0_5.out (fun h=>h)).cell 2 rfl)<|RI 3 (.pointer (some ⟨w.heap.size+1,0,none⟩))<|J2 (fun hs_=>hs_.val 7) (fun hs_=>(hs_.mv.blk HB1_5.out (fun h=>h)).cell 2 rfl) ?_;refine RV (fun A_ hs_ K_ hK_=>?_) ?_;· have q70_:=hs_.val 6;have q72_:=hs_.val 8;go_simp;refine (dot_c _ _ P.n P.C (yq t1) _ (HG.out.ext hs_.mv.ext) (HPO.out.ext hs_.mv.ext) (HX1R.out.ext hs_.mv.ext) HQC.out HXQ.out (by omega) hsz).mono ?_;rintro e W9_ ⟨rfl,e9_⟩;exact hK_.out _ e9_
          exact RI 3 (.pointer (some ⟨w.heap.size+1,0,none⟩))<|J2 (fun hs_=>hs_.val 10) (fun hs_=>(hs_.mv.blk HB1_5.out (fun h=>h)).cell 1 rfl)<|R2 9 11<|R2 4 12<|R1 13<|RnEL.nil
         simp only [fse,Ke.value,puts,Act.put,List.setIfInBounds_toArray,List.set_cons_zero,List.set_cons_succ];have HX6:Hid (Ext w w6):=Hi32 hm_.ext;clear hm_ he_;go_wp2;go_ret;exact ⟨by rw [vfy,if_neg (fun h=>h HEM.out),if_neg (show ¬ ((1:Int)=2) by decide),if_neg (fun h=>h HLE.out),if_neg HV.out,if_neg (show ¬ ((1:Int)=3) by decide),if_pos HRQ.out,if_neg (fun h=>h HBZ.out),if_neg (fun h=>h.elim (fun h=>h HB1_.out) (fun h=>h HB2_.out))];rfl,HX6.out⟩
        ·have z2:=tl_ne2 h2;have HB2_:=Hi32 h2;clear h2;go_wp2_with fail;refine region_e [.val (.string ((bdc P t2 m2).1)),.val (.pointer (some ⟨w.heap.size+1,1,none⟩)),.val (.string val),.val (.bool false),.val (.bool false),.val (.pointer (some ⟨w.heap.size,2,none⟩)),.val (.slice co P.n ccap),.val (.pointer (some ⟨w.heap.size+1,2,none⟩)),.val (.slice o1 m1 c1),.val (.string (qs (P.obj (yq t1)))),.val (.pointer (some ⟨w.heap.size+1,1,none⟩)),.val (.string val),.val (.bool true),.val (.bool true),.val (.bool true)] (fun L g W=>True) (S:=fun _=>False) (by kernel_rfl) (by kernel_rfl) (by kernel_rfl) (Mv.refl HX5.out (fun k h=>h.elim)) ?_ ?_ ?_ ?_ (fun gv_ w6 hm_ he_=>?_)
         ·exact fun _=>trivial
         ·exact fun _ _ _ _ h _=>h
         ·exact fun _ _ _ _ _ _ h=>h
         ·skip
          refine RI 9 (.string ((bdc P t2 m2).1))<|RI 3 (.pointer (some ⟨w.heap.size+1,0,none⟩))<|J2 (fun hs_=>hs_.val 1) (fun hs_=>(hs_.mv.blk HB1_5.out (fun h=>h)).cell 1 rfl)<|R2 0 2<|R1 3<|RI 2 (.pointer (some ⟨w.heap.size,0,none⟩))<|J2 (fun hs_=>hs_.val 5) (fun hs_=>(hs_.mv.blk HB0_5.out (fun h=>h)).cell 2 rfl)<|RI 3 (.pointer (some ⟨w.heap.size+1,0,none⟩))<|J2 (fun hs_=>hs_.val 7) (fun hs_=>(hs_.mv.blk HB1_5.out (fun h=>h)).cell 2 rfl) ?_;refine RV (fun A_ hs_ K_ hK_=>?_) ?_;· have q70_:=hs_.val 6;have q72_:=hs_.val 8;go_simp;refine (dot_c _ _ P.n P.C (yq t1) _ (HG.out.ext hs_.mv.ext) (HPO.out.ext hs_.mv.ext) (HX1R.out.ext hs_.mv.ext) HQC.out HXQ.out (by omega) hsz).mono ?_;rintro e W9_ ⟨rfl,e9_⟩;exact hK_.out _ e9_
          exact RI 3 (.pointer (some ⟨w.heap.size+1,0,none⟩))<|J2 (fun hs_=>hs_.val 10) (fun hs_=>(hs_.mv.blk HB1_5.out (fun h=>h)).cell 1 rfl)<|R2 9 11<|R2 4 12<|R1 13<|RnEL.nil
         simp only [fse,Ke.value,puts,Act.put,List.setIfInBounds_toArray,List.set_cons_zero,List.set_cons_succ];have HX6:Hid (Ext w w6):=Hi32 hm_.ext;clear hm_ he_;go_wp2;go_ret;exact ⟨by rw [vfy,if_neg (fun h=>h HEM.out),if_neg (show ¬ ((1:Int)=2) by decide),if_neg (fun h=>h HLE.out),if_neg HV.out,if_neg (show ¬ ((1:Int)=3) by decide),if_pos HRQ.out,if_neg (fun h=>h HBZ.out),if_pos (Or.inr HB2_.out)];rfl,HX6.out⟩
       ·have z1:=tl_ne2 h1;have HB1_:=Hi32 h1;clear h1;go_wp2_with fail;refine region_e [.val (.string ((bdc P t2 m2).1)),.val (.pointer (some ⟨w.heap.size+1,1,none⟩)),.val (.string val),.val (.bool true),.val (.bool true),.off,.off,.off,.off,.off,.off,.off,.off,.val (.bool true),.val (.bool true)] (fun L g W=>True) (S:=fun _=>False) (by kernel_rfl) (by kernel_rfl) (by kernel_rfl) (Mv.refl HX5.out (fun k h=>h.elim)) ?_ ?_ ?_ ?_ (fun gv_ w6 hm_ he_=>?_)
        ·exact fun _=>trivial
        ·exact fun _ _ _ _ h _=>h
        ·exact fun _ _ _ _ _ _ h=>h
        ·skip
         exact RI 9 (.string ((bdc P t2 m2).1))<|RI 3 (.pointer (some ⟨w.heap.size+1,0,none⟩))<|J2 (fun hs_=>hs_.val 1) (fun hs_=>(hs_.mv.blk HB1_5.out (fun h=>h)).cell 1 rfl)<|R2 0 2<|R1 3<|RO<|RO<|RO<|RO<|RO<|RO<|RO<|RO<|J2 (fun hs_=>hs_.val 4) (fun hs_=>hs_.un 12)<|R1 13<|RnEL.nil
        simp only [fse,Ke.value,puts,Act.put,List.setIfInBounds_toArray,List.set_cons_zero,List.set_cons_succ];have HX6:Hid (Ext w w6):=Hi32 hm_.ext;clear hm_ he_;go_wp2;go_ret;exact ⟨by rw [vfy,if_neg (fun h=>h HEM.out),if_neg (show ¬ ((1:Int)=2) by decide),if_neg (fun h=>h HLE.out),if_neg HV.out,if_neg (show ¬ ((1:Int)=3) by decide),if_pos HRQ.out,if_neg (fun h=>h HBZ.out),if_pos (Or.inl HB1_.out)];rfl,HX6.out⟩
     ·have h3:(!rq val)=true:=by simpa using hv
      have HRV:=Hi32 h3;have HRQ:=Hi32 hv;clear h3 hv;have c1_1:=HB1_3.out.cell 1 rfl;go_wp2_with fail;refine ((HRV.out▸wrong_c val _ (HG.out.ext (HX3.out)) hvs)).mono ?_;rintro e w4 ⟨rfl,e4⟩;have HX4:=Hi32 (HX3.out.trans e4);have HB0_4:=Hi32 (HB0_3.out.ext e4);have HB1_4:=Hi32 (HB1_3.out.ext e4);clear e4 c1_1;go_wp2;go_ret;exact ⟨by rw [vfy,if_neg (fun h=>h HEM.out),if_neg (show ¬ ((1:Int)=2) by decide),if_neg (fun h=>h HLE.out),if_neg HV.out,if_neg (show ¬ ((1:Int)=3) by decide),if_neg HRQ.out];rfl,HX4.out⟩
  ·have c1_0:=HB1_2.out.cell 0 rfl;have c0_0:=HB0_2.out.cell 0 rfl;have c0_1:=HB0_2.out.cell 1 rfl;have c0_2:=HB0_2.out.cell 2 rfl;have c1_3:=HB1_2.out.cell 3 rfl;go_wp2_with fail;refine (prefutes_c P _ _ va q _ (HG.out.ext (HX2.out)) (HPM.out.ext HX2.out) _ m2 t2 r (HT2.out.ext HX2.out) HS2.out hm2 HQ2.out hr2 hsz2 HQB.out HQP.out hn hm hq1 hq2 HQA.out).mono ?_;rintro e w3 ⟨rfl,e3⟩;have HX3:=Hi32 (HX2.out.trans e3);have HB0_3:=Hi32 (HB0_2.out.ext e3);have HB1_3:=Hi32 (HB1_2.out.ext e3);clear e3 c1_0 c0_0 c0_1 c0_2 c1_3;go_wp2;go_ret;exact ⟨by rw [vfy,if_neg (fun h=>h HEM.out),if_pos rfl];rfl,HX3.out⟩
  ·have c1_0:=HB1_2.out.cell 0 rfl;go_upto_region 9 with fail
   clear c1_0;by_cases hle:lerr t1 m1 P.n≠0
   ·have hz2:¬ lerr t1 m1 P.n=0:=hle;have c0_0:=HB0_2.out.cell 0 rfl;have c0_1:=HB0_2.out.cell 1 rfl;have c0_2:=HB0_2.out.cell 2 rfl;have c1_2:=HB1_2.out.cell 2 rfl;go_wp2_with fail;refine (pviol_bad P _ _ va q _ (HG.out.ext (HX2.out)) (HPM.out.ext HX2.out) _ m1 t1 (HT1.out.ext HX2.out) HS1.out hm1 hle HQP.out hn hm hq1 hq2 HQA.out).mono ?_;rintro e w3 ⟨rfl,e3⟩;have HX3:=Hi32 (HX2.out.trans e3);have HB0_3:=Hi32 (HB0_2.out.ext e3);have HB1_3:=Hi32 (HB1_2.out.ext e3);clear e3 c0_0 c0_1 c0_2 c1_2;go_wp2;go_ret;exact ⟨by rw [vfy,if_neg (fun h=>h HEM.out),if_neg (show ¬ ((3:Int)=2) by decide),if_pos hle];rfl,HX3.out⟩
   ·have hle:=Classical.not_not.1 hle;obtain ⟨em1_,hx_⟩:=lerr_ok hle HQ1.out;have HX_:=Hi32 hx_;clear hx_;have HX1R:Hid (Rq w (.slice o1 m1 c1) P.n (yq t1)):=Hi32 (em1_▸HT1.out.congr fun i hi=>by rw [← (HX_.out i hi).1]);have HXQ:Hid (∀ j,j<P.n->QB r ((yq t1) j)):=Hi32 (fun j hj=>(HX_.out j (by omega)).2);have HLE:Hid (lerr t1 m1 P.n=0):=Hi32 hle;clear hle em1_;have c0_0:=HB0_2.out.cell 0 rfl;have c0_1:=HB0_2.out.cell 1 rfl;have c0_2:=HB0_2.out.cell 2 rfl;have c1_2:=HB1_2.out.cell 2 rfl;go_wp2_with fail;refine (pviol_c P _ _ va q _ (HG.out.ext (HX2.out)) (HPM.out.ext HX2.out) _ (yq t1) r (HX1R.out.ext HX2.out) HXQ.out hr2 hsz HQP.out hn hm hq1 hq2 HQA.out).mono ?_;rintro e w3 ⟨v_,rfl,e3,fl_⟩;have HX3:=Hi32 (HX2.out.trans e3);have HB0_3:=Hi32 (HB0_2.out.ext e3);have HB1_3:=Hi32 (HB1_2.out.ext e3);clear e3 c0_0 c0_1 c0_2 c1_2;obtain ⟨la,lc,rfl⟩:=fl_.lsl;clear fl_;go_upto_region 12 with fail
    by_cases hv:0<(fil (vio P (yq t1)) P.m).length
    ·have hz2:(0:Int)<(((fil (vio P (yq t1)) P.m).length:Nat):Int):=by omega
     go_wp2;go_ret;exact ⟨by rw [vfy,if_neg (fun h=>h HEM.out),if_neg (show ¬ ((3:Int)=2) by decide),if_neg (fun h=>h HLE.out),if_pos hv];rfl,HX3.out⟩
    ·have hz2:¬ (0:Int)<(((fil (vio P (yq t1)) P.m).length:Nat):Int):=by omega
     have HV:=Hi32 hv;clear hv;have c1_0:=HB1_3.out.cell 0 rfl;have c0_0:=HB0_3.out.cell 0 rfl;have c0_1:=HB0_3.out.cell 1 rfl;have c0_2:=HB0_3.out.cell 2 rfl;have c1_4:=HB1_3.out.cell 4 rfl;go_wp2_with fail;refine (pfalls_c P _ _ va q _ (HG.out.ext (HX3.out)) (HPM.out.ext HX3.out) _ m3 t3 r (HT3.out.ext HX3.out) HS3.out hm3 HQ3.out hr2 hsz HQC.out HQP.out hn hm hq1 hq2 HQA.out).mono ?_;rintro e w4 ⟨rfl,e4⟩;have HX4:=Hi32 (HX3.out.trans e4);have HB0_4:=Hi32 (HB0_3.out.ext e4);have HB1_4:=Hi32 (HB1_3.out.ext e4);clear e4 c1_0 c0_0 c0_1 c0_2 c1_4;go_wp2;go_ret;exact ⟨by rw [vfy,if_neg (fun h=>h HEM.out),if_neg (show ¬ ((3:Int)=2) by decide),if_neg (fun h=>h HLE.out),if_neg HV.out,if_pos rfl];rfl,HX4.out⟩
theorem p3_neg (b:Rat) (w:World) (g:Gd w) (h:QB 200 b):Calls Tryz.prog 21 #[.string ⟨#[45,49]⟩,.string (qs b)] w (Ret w (.string (qs (-b)))):=by
 have:=p3_times (-1) b w g (QB1.neg.mono (by omega)) h;rwa [qs_m1,show (-1:Rat)*b=-b by grind] at this
theorem qs_three:qs 3=⟨#[51]⟩:=by
 have:=qs_int 3;rw [show ((3:Int):Rat)=3 by rfl] at this;rw [this];unfold zs;rw [zl_pos (by decide)];show (⟨(Lib.decDigits 3).toArray⟩:ByteArray)=_;rw [Lib.decDigits,dif_pos (by decide)];rfl
theorem all_next {t:Nat->ByteArray} {k:Nat} (h:rq (t k)=true) (h2:∀ i,i<k->rq (t i)=true):∀ i,i<k+1->rq (t i)=true:=fun i hi=>by
 by_cases e:i=k
 ·rw [e];exact h
 ·exact h2 i (by omega)
theorem any_at {t:Nat->ByteArray} {k m:Nat} (hk:k<m) (h:rq (t k)=false):any_ (fun i=>!rq (t i)) m=true:=any_true.2 ⟨k,hk,by rw [h];rfl⟩
theorem any_none {t:Nat->ByteArray} {k m:Nat} (h:∀ i,i<k->rq (t i)=true) (hk:k=m):¬ any_ (fun i=>!rq (t i)) m=true:=by
 rw [Bool.not_eq_true,any_false];intro i hi;rw [h i (by omega)];rfl
theorem dot7_go (a1o_ a2o_:Option Addr) (c1_ c2_ n:Nat) (x y:Nat->Rat) {q r:Nat} (w:World) (g:Gd w) (h1:∀ i,i<n->∃ a,a1o_=some a/\w.cell? (a.add i)=some (.string (qs (x i)))) (h2:∀ i,i<n->∃ a,a2o_=some a/\w.cell? (a.add i)=some (.string (qs (y i)))) (hq:∀ i,i<n->QB q (x i)) (hr:∀ i,i<n->QB r (y i)) (hm:n<=1000000) (hq2:q+r<=199) (hsz:n*(q+r+1)<=198):Calls Tryz.prog 70 #[.slice a1o_ n c1_,.slice a2o_ n c2_] w (Ret w (.string (qs (smq n (fun j=>x j*y j))))):=by
 have HG:=Hi32 g;have HA:=Hi32 h1;have HB:=Hi32 h2;have HQ:=Hi32 hq;have HR:=Hi32 hr;clear g h1 h2 hq hr;have HS:Hid (∀ i,i<=n->QB 199 (smq i (fun j=>x j*y j))):=Hi32 (fun i hi=>(smq_qb HQ.out HR.out i hi).mono (dot_sz hi hsz));go_enter Tryz.func70,Tryz.ntmps70;go_wp2_with fail;go_loopw [6,5] (fun x0_ x1_ wx=>∃ k:Nat,x0_ = .int .i64 k/\x1_ = .string (qs (smq k (fun j=>x j*y j)))/\k<=n/\Hid (Ext w wx)) (fun x0_ _ _=>n-(intOf x0_).toNat)
 case atStart=>exact ⟨0,rfl,by simp only [smq];rw [qs_zero],Nat.zero_le _,Hi32 (Ext.refl w)⟩
 case round =>
  rename World=>w1
  obtain ⟨k,rfl,rfl,hkk,HH⟩:=hrel;have HX1:=Hi32 HH.out;clear HH;by_cases hlt:k<n
  ·have hlt2:(k:Int)<((n:Nat):Int):=by omega
   obtain ⟨aa,rfl,za_⟩:=HA.out k hlt;obtain ⟨ab,rfl,zb_⟩:=HB.out k hlt;have HCa:=Hi32 za_;have HCb:=Hi32 zb_;clear za_ zb_;go_wp2_with fail;refine region_e [.val (.string (qs (smq k (fun j=>x j*y j)))),.val (.slice (some aa) n c1_),.val (.int .i64 (k:Int)),.val (.pointer (some (aa.add k))),.val (.string (qs (x k))),.val (.slice (some ab) n c2_),.val (.int .i64 (k:Int)),.val (.pointer (some (ab.add k))),.val (.string (qs (y k))),.val (.string (qs (x k*y k))),.val (.string (qs (smq k (fun j=>x j*y j)+x k*y k))),.val (.string (qs (smq k (fun j=>x j*y j)+x k*y k)))] (fun L g W=>True) (S:=fun _=>False) (by kernel_rfl) (by kernel_rfl) (by kernel_rfl) (Mv.refl HX1.out (fun k h=>h.elim)) ?_ ?_ ?_ ?_ (fun gv_ w2 hm_ he_=>?_)
   ·exact fun _=>trivial
   ·exact fun _ _ _ _ h _=>h
   ·exact fun _ _ _ _ _ _ h=>h
   ·skip
    refine RI 5 (.string (qs (smq k (fun j=>x j*y j))))<|RI 0 (.slice (some aa) n c1_)<|RI 6 (.int .i64 (k:Int))<|R2 1 2<|J2 (fun hs_=>hs_.val 3) (fun hs_=>keepA hs_.mv.ext (HCa.out))<|RI 1 (.slice (some ab) n c2_)<|RI 6 (.int .i64 (k:Int))<|R2 5 6<|J2 (fun hs_=>hs_.val 7) (fun hs_=>keepA hs_.mv.ext (HCb.out)) ?_;refine RV (fun A_ hs_ K_ hK_=>?_) ?_;· have q17_:=hs_.val 4;have q21_:=hs_.val 8;go_simp;refine (p3_times (x k) (y k) _ (HG.out.ext hs_.mv.ext) ((HQ.out k hlt).mono (by omega)) ((HR.out k hlt).mono (by omega))).mono ?_;rintro e W9_ ⟨rfl,e9_⟩;exact hK_.out _ e9_
    refine RV (fun A_ hs_ K_ hK_=>?_) ?_;· have q13_:=hs_.val 0;have q22_:=hs_.val 9;go_simp;refine (p3_plus (smq k (fun j=>x j*y j)) (x k*y k) _ (HG.out.ext hs_.mv.ext) ((HS.out k (by omega)).mono (by omega)) (((HQ.out k hlt).mul (HR.out k hlt)).mono (by omega))).mono ?_;rintro e W9_ ⟨rfl,e9_⟩;exact hK_.out _ e9_
    exact R1 10<|RnEL.nil
   simp only [fse,Ke.value,puts,Act.put,List.setIfInBounds_toArray,List.set_cons_zero,List.set_cons_succ];have HX2:Hid (Ext w w2):=Hi32 hm_.ext;clear hm_ he_;go_wp2_with fail;go_roundw
   case rel=>exact ⟨k+1,by go_num,by rw [smq],by omega,Hi32 HX2.out⟩
   case measure=>simp [intOf];omega
  ·have hk2:k=n:=by omega
   have hge:¬ (k:Int)<((n:Nat):Int):=by omega
   go_wp2;go_ret;exact ⟨by rw [← hk2];rfl,HX1.out⟩
theorem list7_go (ao_:Option Addr) (ac m n:Nat) (t:Nat->ByteArray) (w:World) (g:Gd w) (hr_:∀ i,i<m->∃ a,ao_=some a/\w.cell? (a.add i)=some (.string (t i))) (hl:∀ i,i<m->(t i).size<=1000000) (hm:m<=1000000):Calls Tryz.prog 63 #[.slice ao_ m ac,.int .i64 (n:Int)] w (Ret w (.int .i64 (lerr t m n))):=by
 have HG:=Hi32 g;have HA:=Hi32 hr_;have HL:=Hi32 hl;clear g hr_ hl;go_enter Tryz.func63,Tryz.ntmps63;go_upto_region 1 with fail
 by_cases h1:m≠n
 ·have h2:¬ (m:Int)=(n:Int):=by omega
  have h3:((m:Int) != (n:Int))=true:=by simpa using h2
  go_wp2;go_ret;exact ⟨by rw [lerr,if_pos h1];rfl,(Ext.refl w)⟩
 ·obtain rfl:=Classical.not_not.1 h1;go_wp2_with fail;go_loopw [5] (fun x0_ wx=>∃ k:Nat,x0_ = .int .i64 k/\k<=m/\Hid (∀ i,i<k->rq (t i)=true)/\Hid (Ext w wx)) (fun x0_ _=>m-(intOf x0_).toNat)
  case atStart=>exact ⟨0,rfl,Nat.zero_le _,Hi32 ((fun i hi=>absurd hi (Nat.not_lt_zero i))),Hi32 (Ext.refl w)⟩
  case round =>
   rename World=>w1
   obtain ⟨k,rfl,hkk,HGk,HH⟩:=hrel;have HX1:=Hi32 HH.out;clear HH;by_cases hlt:k<m
   ·have hlt2:(k:Int)<((m:Nat):Int):=by omega
    obtain ⟨aa,rfl,za_⟩:=HA.out k hlt;have HCa:=Hi32 za_;clear za_;by_cases hr:rq (t k)=true
    ·have HRK:=Hi32 hr;clear hr;have ca_k:=keepA HX1.out (HCa.out);go_wp2_with fail;refine ((HRK.out▸r7_c (t k) _ (HG.out.ext (HX1.out)) (HL.out k hlt))).mono ?_;rintro e w2 ⟨rfl,e2⟩;have HX2:=Hi32 (HX1.out.trans e2);clear e2 ca_k;go_wp2_with fail;go_roundw
     case rel=>exact ⟨k+1,by go_num,by omega,Hi32 (all_next HRK.out HGk.out),Hi32 HX2.out⟩
     case measure=>simp [intOf];omega
    ·have hr2:rq (t k)=false:=by simpa using hr
     have HRK:=Hi32 hr2;clear hr2 hr;have ca_k:=keepA HX1.out (HCa.out);go_wp2_with fail;refine ((HRK.out▸r7_c (t k) _ (HG.out.ext (HX1.out)) (HL.out k hlt))).mono ?_;rintro e w2 ⟨rfl,e2⟩;have HX2:=Hi32 (HX1.out.trans e2);clear e2 ca_k;go_wp2;go_ret;exact ⟨by rw [lerr,if_neg (fun h=>h rfl),if_pos (any_at hlt HRK.out)];rfl,HX2.out⟩
   ·have hk2:k=m:=by omega
    have hge:¬ (k:Int)<((m:Nat):Int):=by omega
    go_wp2;go_ret;exact ⟨by rw [lerr,if_neg (fun h=>h rfl),if_neg (any_none HGk.out hk2)];rfl,HX1.out⟩
theorem dot7_c (va vb:Value) (n:Nat) (x y:Nat->Rat) {q r:Nat} (w:World) (g:Gd w) (ha:Rq w va n x) (hb:Rq w vb n y) (hq:∀ i,i<n->QB q (x i)) (hr:∀ i,i<n->QB r (y i)) (hm:n<=1000000) (hq2:q+r<=199) (hsz:n*(q+r+1)<=198) :
    Calls Tryz.prog 70 #[va,vb] w (Ret w (.string (qs (smq n (fun j=>x j*y j))))):=by
 obtain ⟨a1,c1,rfl,_,_,h1⟩:=ha;obtain ⟨a2,c2,rfl,_,_,h2⟩:=hb;exact dot7_go a1 a2 c1 c2 n x y w g h1 h2 hq hr hm hq2 hsz
theorem list7_c {w:World} {v:Value} {m n:Nat} {t:Nat->ByteArray} (g:Gd w) (h:Rs w v m t) (hl:∀ i,i<m->(t i).size<=1000000) (hm:m<=1000000):Calls Tryz.prog 63 #[v,.int .i64 (n:Int)] w (Ret w (.int .i64 (lerr t m n))):=by
 obtain ⟨ao,cap,rfl,_,_,hc⟩:=h;exact list7_go ao cap m n t w g hc hl hm
theorem sgn3b {x:Rat} (h:x.num.sign=1):0<x:=by
 by_cases h1:x<0
 ·rw [num_sign_neg h1] at h;exact absurd h (by decide)
 ·by_cases h2:x=0
  ·rw [h2] at h;exact absurd h (by decide)
  ·grind
theorem sgn3c {x:Rat} {s:Int} (h:0<x) (hs:s≠1):¬ x.num.sign=s:=by rw [num_sign_pos h];exact fun e=>hs e.symm
theorem dot_sz3 {n q r:Nat} (h:n*(q+r+1)<=150):1+n*(q+r+1)<=151:=by omega
def VioR (P:LP) (x:Nat->Rat) (w:World) (e:Ending) (w':World):Prop:=∃ v,e = .returned v/\Ext w w'/\FL w w' (vio P x) P.m v
theorem viol7_c (P:LP) (vr vc:Value) (va:Nat->Value) (q:Nat) (w:World) (g:Gd w) (hP:PM P w vr vc va) (vx:Value) (x:Nat->Rat) (r:Nat) (hx:Rq w vx P.n x) (hr:∀ j,j<P.n->QB r (x j)) (hsz:P.n*(q+r+1)<=150) (hqr:q+r<=40) (Q:PQ P) (hn:P.n<=60) (hm:P.m<=300) (qa:∀ i,i<P.m->∀ j,j<P.n->QB q (P.A i j)) (qb:∀ i,i<P.m->QB q (P.B i)):Calls Tryz.prog 64 #[vr,vx] w (VioR P x w):=by
 have HPM:=Hi32 hP;have HXR:=Hi32 hx;have HXQ:=Hi32 hr;have HG:=Hi32 g;have HQA:=Hi32 qa;have HQP:=Hi32 Q;have HQB:=Hi32 qb;clear hP hx hr g qa Q qb;have HPO:=Hi32 HPM.out.obj;have HPF:=Hi32 HPM.out.fac;obtain ⟨co,ccap,ec_,_⟩:=HPM.out.obj;obtain ⟨ro,rcap,er_,_,_,hrr⟩:=HPM.out.rows;subst er_ ec_;have HRR:=Hi32 hrr;clear hrr;go_enter Tryz.func64,Tryz.ntmps64;go_wp2_with fail;have HFL_0:Hid (FL w w (vio P x) 0 (.slice none 0 0)):=Hi32 (FL.nil _ _ _);go_wp2_with fail;go_loopw [6,5] (fun x0_ x1_ wx=>∃ k:Nat,∃ la:Option Addr,∃ ln:Nat,∃ lc:Nat,x0_ = .int .i64 k/\x1_ = .slice la ln lc/\k<=P.m/\Hid (Ext w wx/\FL w wx (vio P x) k (.slice la ln lc))) (fun x0_ _ _=>P.m-(intOf x0_).toNat)
 case atStart=>exact ⟨0,none,0,0,rfl,rfl,Nat.zero_le _,Hi32 ⟨(Ext.refl w),HFL_0.out⟩⟩
 case round =>
  rename World=>w1
  obtain ⟨k,la,ln,lc,rfl,rfl,hkk,HH⟩:=hrel;have HX1:=Hi32 HH.out.1;have HFL_1:=Hi32 HH.out.2;clear HH;by_cases hlt:k<P.m
  ·have hlt2:(k:Int)<((P.m:Nat):Int):=by omega
   obtain ⟨ra,o_,rfl,zr_,zs_⟩:=HRR.out k hlt;obtain ⟨fo,fcap,ef_,_⟩:=HPF.out k hlt;rw [ef_] at zr_;have HFK:=Hi32 (ef_▸HPF.out k hlt);have HCr:=Hi32 zr_;have HCs:=Hi32 zs_;clear zr_ zs_ ef_;go_upto_region 5 with fail
   rcases sgn3 (smq P.n (fun j=>P.A k j*x j)+-P.B k) with ⟨h1,h2⟩|⟨h1,h2⟩|⟨h1,h2⟩
   ·have HSG:=Hi32 h1;clear h1;have hs_:vio P x k=false:=decide_eq_false (fun h=>absurd HSG.out (sgn3c (by grind) (by decide)));have HSK:=Hi32 hs_;clear hs_;go_wp2_with fail;refine region_e [.val (.slice (some ⟨ra,o_,none⟩) P.m rcap),.val (.int .i64 (k:Int)),.val (.pointer (some ⟨ra,o_+k*2,none⟩)),.val (.pointer (some ⟨ra,o_+k*2,none⟩)),.val (.slice fo P.n fcap),.val (vx),.val (.string (qs (smq P.n (fun j=>P.A k j*x j)))),.val (.slice (some ⟨ra,o_,none⟩) P.m rcap),.val (.int .i64 (k:Int)),.val (.pointer (some ⟨ra,o_+k*2,none⟩)),.val (.pointer (some ⟨ra,o_+k*2+1,none⟩)),.val (.string (qs (P.B k))),.val (.string (qs (-P.B k))),.val (.string (qs (smq P.n (fun j=>P.A k j*x j)+-P.B k))),.val (.int .i64 (-1)),.val (.bool false)] (fun L g W=>True) (S:=fun _=>False) (by kernel_rfl) (by kernel_rfl) (by kernel_rfl) (Mv.refl HX1.out (fun k h=>h.elim)) ?_ ?_ ?_ ?_ (fun gv_ w2 hm_ he_=>?_)
    ·exact fun _=>trivial
    ·exact fun _ _ _ _ h _=>h
    ·exact fun _ _ _ _ _ _ h=>h
    ·skip
     refine RI 0 (.slice (some ⟨ra,o_,none⟩) P.m rcap)<|RI 6 (.int .i64 (k:Int))<|R2 0 1<|R1 2<|J2 (fun hs_=>hs_.val 3) (fun hs_=>keepA hs_.mv.ext (HCr.out)) ?_;refine RV (fun A_ hs_ K_ hK_=>?_) ?_;· have q1_:=(hs_.old 1:A_.tmps[1]?.getD undef=vx);go_simp;exact fin_ hK_
     refine RV (fun A_ hs_ K_ hK_=>?_) ?_;· have q17_:=hs_.val 4;have q18_:=hs_.val 5;go_simp;refine (dot7_c _ _ P.n (P.A k) x _ (HG.out.ext hs_.mv.ext) (HFK.out.ext hs_.mv.ext) (HXR.out.ext hs_.mv.ext) (HQA.out k hlt) HXQ.out (by omega) (by omega) (by omega)).mono ?_;rintro e W9_ ⟨rfl,e9_⟩;exact hK_.out _ e9_
     refine RI 0 (.slice (some ⟨ra,o_,none⟩) P.m rcap)<|RI 6 (.int .i64 (k:Int))<|R2 7 8<|R1 9<|J2 (fun hs_=>hs_.val 10) (fun hs_=>keepA hs_.mv.ext (HCs.out)) ?_;refine RV (fun A_ hs_ K_ hK_=>?_) ?_;· have q24_:=hs_.val 11;go_simp;refine (p3_neg (P.B k) _ (HG.out.ext hs_.mv.ext) ((HQB.out k hlt).mono (by omega))).mono ?_;rintro e W9_ ⟨rfl,e9_⟩;exact hK_.out _ e9_
     refine RV (fun A_ hs_ K_ hK_=>?_) ?_;· have q19_:=hs_.val 6;have q25_:=hs_.val 12;go_simp;refine (p3_plus (smq P.n (fun j=>P.A k j*x j)) (-P.B k) _ (HG.out.ext hs_.mv.ext) (((smq_qb (HQA.out k hlt) HXQ.out P.n (Nat.le_refl _)).mono (dot_sz3 hsz)).mono (by omega)) ((HQB.out k hlt).neg.mono (by omega))).mono ?_;rintro e W9_ ⟨rfl,e9_⟩;exact hK_.out _ e9_
     refine RV (fun A_ hs_ K_ hK_=>?_) ?_;· have q26_:=hs_.val 13;go_simp;refine ((HSG.out▸sg7_c (smq P.n (fun j=>P.A k j*x j)+-P.B k) _ (HG.out.ext hs_.mv.ext) ((((smq_qb (HQA.out k hlt) HXQ.out P.n (Nat.le_refl _)).mono (dot_sz3 hsz)).add (HQB.out k hlt).neg).mono (by omega)))).mono ?_;rintro e W9_ ⟨rfl,e9_⟩;exact hK_.out _ e9_
     exact R1 14<|RnEL.nil
    simp only [fse,Ke.value,puts,Act.put,List.setIfInBounds_toArray,List.set_cons_zero,List.set_cons_succ];have HX2:Hid (Ext w w2):=Hi32 hm_.ext;have HFL_2:=Hi32 (HFL_1.out.mv hm_ (fun i hi h=>h));clear hm_ he_;go_wp2_with fail;go_roundw
    case rel=>exact ⟨k+1,_,_,_,by go_num,rfl,by omega,Hi32 ⟨HX2.out,(FL.skip HFL_2.out HSK.out)⟩⟩
    case measure=>simp [intOf];omega
   ·have HSG:=Hi32 h1;clear h1;have hs_:vio P x k=false:=decide_eq_false (fun h=>absurd HSG.out (sgn3c (by grind) (by decide)));have HSK:=Hi32 hs_;clear hs_;go_wp2_with fail;refine region_e [.val (.slice (some ⟨ra,o_,none⟩) P.m rcap),.val (.int .i64 (k:Int)),.val (.pointer (some ⟨ra,o_+k*2,none⟩)),.val (.pointer (some ⟨ra,o_+k*2,none⟩)),.val (.slice fo P.n fcap),.val (vx),.val (.string (qs (smq P.n (fun j=>P.A k j*x j)))),.val (.slice (some ⟨ra,o_,none⟩) P.m rcap),.val (.int .i64 (k:Int)),.val (.pointer (some ⟨ra,o_+k*2,none⟩)),.val (.pointer (some ⟨ra,o_+k*2+1,none⟩)),.val (.string (qs (P.B k))),.val (.string (qs (-P.B k))),.val (.string (qs (smq P.n (fun j=>P.A k j*x j)+-P.B k))),.val (.int .i64 0),.val (.bool false)] (fun L g W=>True) (S:=fun _=>False) (by kernel_rfl) (by kernel_rfl) (by kernel_rfl) (Mv.refl HX1.out (fun k h=>h.elim)) ?_ ?_ ?_ ?_ (fun gv_ w2 hm_ he_=>?_)
    ·exact fun _=>trivial
    ·exact fun _ _ _ _ h _=>h
    ·exact fun _ _ _ _ _ _ h=>h
    ·skip
     refine RI 0 (.slice (some ⟨ra,o_,none⟩) P.m rcap)<|RI 6 (.int .i64 (k:Int))<|R2 0 1<|R1 2<|J2 (fun hs_=>hs_.val 3) (fun hs_=>keepA hs_.mv.ext (HCr.out)) ?_;refine RV (fun A_ hs_ K_ hK_=>?_) ?_;· have q1_:=(hs_.old 1:A_.tmps[1]?.getD undef=vx);go_simp;exact fin_ hK_
     refine RV (fun A_ hs_ K_ hK_=>?_) ?_;· have q17_:=hs_.val 4;have q18_:=hs_.val 5;go_simp;refine (dot7_c _ _ P.n (P.A k) x _ (HG.out.ext hs_.mv.ext) (HFK.out.ext hs_.mv.ext) (HXR.out.ext hs_.mv.ext) (HQA.out k hlt) HXQ.out (by omega) (by omega) (by omega)).mono ?_;rintro e W9_ ⟨rfl,e9_⟩;exact hK_.out _ e9_
     refine RI 0 (.slice (some ⟨ra,o_,none⟩) P.m rcap)<|RI 6 (.int .i64 (k:Int))<|R2 7 8<|R1 9<|J2 (fun hs_=>hs_.val 10) (fun hs_=>keepA hs_.mv.ext (HCs.out)) ?_;refine RV (fun A_ hs_ K_ hK_=>?_) ?_;· have q24_:=hs_.val 11;go_simp;refine (p3_neg (P.B k) _ (HG.out.ext hs_.mv.ext) ((HQB.out k hlt).mono (by omega))).mono ?_;rintro e W9_ ⟨rfl,e9_⟩;exact hK_.out _ e9_
     refine RV (fun A_ hs_ K_ hK_=>?_) ?_;· have q19_:=hs_.val 6;have q25_:=hs_.val 12;go_simp;refine (p3_plus (smq P.n (fun j=>P.A k j*x j)) (-P.B k) _ (HG.out.ext hs_.mv.ext) (((smq_qb (HQA.out k hlt) HXQ.out P.n (Nat.le_refl _)).mono (dot_sz3 hsz)).mono (by omega)) ((HQB.out k hlt).neg.mono (by omega))).mono ?_;rintro e W9_ ⟨rfl,e9_⟩;exact hK_.out _ e9_
     refine RV (fun A_ hs_ K_ hK_=>?_) ?_;· have q26_:=hs_.val 13;go_simp;refine ((HSG.out▸sg7_c (smq P.n (fun j=>P.A k j*x j)+-P.B k) _ (HG.out.ext hs_.mv.ext) ((((smq_qb (HQA.out k hlt) HXQ.out P.n (Nat.le_refl _)).mono (dot_sz3 hsz)).add (HQB.out k hlt).neg).mono (by omega)))).mono ?_;rintro e W9_ ⟨rfl,e9_⟩;exact hK_.out _ e9_
     exact R1 14<|RnEL.nil
    simp only [fse,Ke.value,puts,Act.put,List.setIfInBounds_toArray,List.set_cons_zero,List.set_cons_succ];have HX2:Hid (Ext w w2):=Hi32 hm_.ext;have HFL_2:=Hi32 (HFL_1.out.mv hm_ (fun i hi h=>h));clear hm_ he_;go_wp2_with fail;go_roundw
    case rel=>exact ⟨k+1,_,_,_,by go_num,rfl,by omega,Hi32 ⟨HX2.out,(FL.skip HFL_2.out HSK.out)⟩⟩
    case measure=>simp [intOf];omega
   ·have HSG:=Hi32 h1;clear h1;have hs_:vio P x k=true:=decide_eq_true (by have:=sgn3b HSG.out;grind);have HSK:=Hi32 hs_;clear hs_;go_wp2_with fail;refine region_e [.val (.slice (some ⟨ra,o_,none⟩) P.m rcap),.val (.int .i64 (k:Int)),.val (.pointer (some ⟨ra,o_+k*2,none⟩)),.val (.pointer (some ⟨ra,o_+k*2,none⟩)),.val (.slice fo P.n fcap),.val (vx),.val (.string (qs (smq P.n (fun j=>P.A k j*x j)))),.val (.slice (some ⟨ra,o_,none⟩) P.m rcap),.val (.int .i64 (k:Int)),.val (.pointer (some ⟨ra,o_+k*2,none⟩)),.val (.pointer (some ⟨ra,o_+k*2+1,none⟩)),.val (.string (qs (P.B k))),.val (.string (qs (-P.B k))),.val (.string (qs (smq P.n (fun j=>P.A k j*x j)+-P.B k))),.val (.int .i64 1),.val (.bool true)] (fun L g W=>True) (S:=fun _=>False) (by kernel_rfl) (by kernel_rfl) (by kernel_rfl) (Mv.refl HX1.out (fun k h=>h.elim)) ?_ ?_ ?_ ?_ (fun gv_ w2 hm_ he_=>?_)
    ·exact fun _=>trivial
    ·exact fun _ _ _ _ h _=>h
    ·exact fun _ _ _ _ _ _ h=>h
    ·skip
     refine RI 0 (.slice (some ⟨ra,o_,none⟩) P.m rcap)<|RI 6 (.int .i64 (k:Int))<|R2 0 1<|R1 2<|J2 (fun hs_=>hs_.val 3) (fun hs_=>keepA hs_.mv.ext (HCr.out)) ?_;refine RV (fun A_ hs_ K_ hK_=>?_) ?_;· have q1_:=(hs_.old 1:A_.tmps[1]?.getD undef=vx);go_simp;exact fin_ hK_
     refine RV (fun A_ hs_ K_ hK_=>?_) ?_;· have q17_:=hs_.val 4;have q18_:=hs_.val 5;go_simp;refine (dot7_c _ _ P.n (P.A k) x _ (HG.out.ext hs_.mv.ext) (HFK.out.ext hs_.mv.ext) (HXR.out.ext hs_.mv.ext) (HQA.out k hlt) HXQ.out (by omega) (by omega) (by omega)).mono ?_;rintro e W9_ ⟨rfl,e9_⟩;exact hK_.out _ e9_
     refine RI 0 (.slice (some ⟨ra,o_,none⟩) P.m rcap)<|RI 6 (.int .i64 (k:Int))<|R2 7 8<|R1 9<|J2 (fun hs_=>hs_.val 10) (fun hs_=>keepA hs_.mv.ext (HCs.out)) ?_;refine RV (fun A_ hs_ K_ hK_=>?_) ?_;· have q24_:=hs_.val 11;go_simp;refine (p3_neg (P.B k) _ (HG.out.ext hs_.mv.ext) ((HQB.out k hlt).mono (by omega))).mono ?_;rintro e W9_ ⟨rfl,e9_⟩;exact hK_.out _ e9_
     refine RV (fun A_ hs_ K_ hK_=>?_) ?_;· have q19_:=hs_.val 6;have q25_:=hs_.val 12;go_simp;refine (p3_plus (smq P.n (fun j=>P.A k j*x j)) (-P.B k) _ (HG.out.ext hs_.mv.ext) (((smq_qb (HQA.out k hlt) HXQ.out P.n (Nat.le_refl _)).mono (dot_sz3 hsz)).mono (by omega)) ((HQB.out k hlt).neg.mono (by omega))).mono ?_;rintro e W9_ ⟨rfl,e9_⟩;exact hK_.out _ e9_
     refine RV (fun A_ hs_ K_ hK_=>?_) ?_;· have q26_:=hs_.val 13;go_simp;refine ((HSG.out▸sg7_c (smq P.n (fun j=>P.A k j*x j)+-P.B k) _ (HG.out.ext hs_.mv.ext) ((((smq_qb (HQA.out k hlt) HXQ.out P.n (Nat.le_refl _)).mono (dot_sz3 hsz)).add (HQB.out k hlt).neg).mono (by omega)))).mono ?_;rintro e W9_ ⟨rfl,e9_⟩;exact hK_.out _ e9_
     exact R1 14<|RnEL.nil
    simp only [fse,Ke.value,puts,Act.put,List.setIfInBounds_toArray,List.set_cons_zero,List.set_cons_succ];have HX2:Hid (Ext w w2):=Hi32 hm_.ext;have HFL_2:=Hi32 (HFL_1.out.mv hm_ (fun i hi h=>h));clear hm_ he_;go_wp2_with (
     at_builtin;refine wpList_plain rfl fun K_ hK_=>op_append2 (X:=w) (H:=fun _ => .int .i64 (k:Int)) (ad:=⟨w2.heap.size,0,none⟩) (m:=1) (c:=1) (v:=.slice la ln lc) rfl rfl rfl under_i info_i rfl (HX2.out.alloc _) (HFL_2.out.alloc _) (fun _=>by decide) (fun j hj=>by obtain rfl:j=0:=(by omega);exact blk_add (Blk.nw (#[.int .i64 (k:Int)]) 3) rfl) (fun _ _=>rfl) (fl_sz (by omega)) (fl_sz2 (by omega)) (fun a3_ n3_ c3_ w3 hA_=>hK_ _ _ ?_)
     have HX3:Hid (Ext w w3):=Hi32 hA_.mv.ext;have HFL_3:Hid (FL w w3 (vio P x) (k+1) (.slice a3_ n3_ c3_)):=Hi32 (FL.push hA_ HSK.out);clear hA_
    )
    go_roundw
    case rel=>exact ⟨k+1,_,_,_,by go_num,rfl,by omega,Hi32 ⟨HX3.out,HFL_3.out⟩⟩
    case measure=>simp [intOf];omega
  ·have hk2:k=P.m:=by omega
   have hge:¬ (k:Int)<((P.m:Nat):Int):=by omega
   go_wp2;go_ret;exact ⟨_,rfl,HX1.out,hk2▸HFL_1.out⟩
def ms (y:Nat->Rat) (k:Nat):Int:=if any_ (fun i=>decide (y i<0)) k=true then 3 else 0
theorem ms_yes {y:Nat->Rat} {k:Nat} (h:any_ (fun i=>decide (y i<0)) k=true):ms y k=3:=if_pos h
theorem ms_no {y:Nat->Rat} {k:Nat} (h:any_ (fun i=>decide (y i<0)) k=false):ms y k=0:=if_neg (by rw [h];decide)
theorem ms_3 {y:Nat->Rat} {k:Nat} (h:any_ (fun i=>decide (y i<0)) k=false) (h2:y k<0):Value.int .i64 3 = .int .i64 (ms y (k+1)):=by
 rw [ms_yes (any_true.2 ⟨k,by omega,decide_eq_true h2⟩)]
theorem ms_0 {y:Nat->Rat} {k:Nat} (h:any_ (fun i=>decide (y i<0)) k=false) (h2:¬ y k<0):Value.int .i64 (ms y k) = .int .i64 (ms y (k+1)):=by
 rw [ms_no h,ms_no];rw [any_,h,decide_eq_false h2];rfl
theorem ms_00 {y:Nat->Rat} {k:Nat} (h:any_ (fun i=>decide (y i<0)) k=false) (h2:¬ y k<0):Value.int .i64 0 = .int .i64 (ms y (k+1)):=by rw [← ms_0 h h2,ms_no h]
theorem ms_up {y:Nat->Rat} {k m:Nat} (h:any_ (fun i=>decide (y i<0)) k=true) (hk:k<=m):ms y m=ms y k:=by
 obtain ⟨i,hi,e⟩:=any_true.1 h;rw [ms_yes h,ms_yes (any_true.2 ⟨i,by omega,e⟩)]
theorem any_congr {f g:Nat->Bool} {m:Nat} (h:∀ i,i<m->f i=g i):any_ f m=any_ g m:=by
 induction m with
 | zero=>rfl
 | succ m ih=>rw [any_,any_,ih (fun i hi=>h i (by omega)),h m (by omega)]
theorem merr_ok2 {t:Nat->ByteArray} {y:Nat->Rat} {m:Nat} (h:lerr t m m=0) (hv:∀ i,i<m->yq t i=y i):merr t m m=ms y m:=by
 rw [merr,if_neg (fun h'=>h' h),ms,any_congr (f:=fun i=>decide (yq t i<0)) (g:=(fun i=>decide (y i<0))) (fun i hi=>by simp only [hv i hi])]
theorem mult_ok (m:Nat) (y:Nat->Rat) (t:Nat->ByteArray) (ro yo:Option Addr) (rcap ycap:Nat) (w:World) (g:Gd w) (hT:Rs w (.slice yo m ycap) m t) (hts:∀ i,i<m->(t i).size<=1000000) (hle:lerr t m m=0) (hv:∀ i,i<m->yq t i=y i) (hyy:∀ i,i<m->∃ a,yo=some a/\w.cell? (a.add i)=some (.string (qs (y i)))) (hq:∀ i,i<m->QB 200 (y i)) (hm:m<=1000):Calls Tryz.prog 67 #[.slice ro m rcap,.slice yo m ycap] w (Ret w (.int .i64 (merr t m m))):=by
 have HG:=Hi32 g;have HT:=Hi32 hT;have HTS:=Hi32 hts;have HLE:=Hi32 hle;have HV:=Hi32 hv;have HY:=Hi32 hyy;have HQ:=Hi32 hq;clear g hT hts hle hv hyy hq;go_enter Tryz.func67,Tryz.ntmps67;go_wp2_with fail;refine ((HLE.out▸list7_c (HG.out.ext ((Ext.refl w))) (HT.out.ext (Ext.refl w)) HTS.out (by omega))).mono ?_;rintro e w1 ⟨rfl,e1⟩;have HX1:Hid (Ext w w1):=Hi32 ((Ext.refl w).trans e1);clear e1;go_wp2_with fail;go_loopw [6,5] (fun x0_ x1_ wx=>∃ k:Nat,x0_ = .int .i64 k/\x1_ = .int .i64 (ms y k)/\k<=m/\Hid (Ext w wx)) (fun x0_ _ _=>m-(intOf x0_).toNat)
 case atStart=>exact ⟨0,rfl,rfl,Nat.zero_le _,Hi32 HX1.out⟩
 case round =>
  rename World=>w2
  obtain ⟨k,rfl,rfl,hkk,HH⟩:=hrel;have HX2:=Hi32 HH.out;clear HH;by_cases hlt:k<m
  ·have hlt2:(k:Int)<((m:Nat):Int):=by omega
   by_cases hz:any_ (fun i=>decide (y i<0)) k=false
   ·have hm0:ms y k=0:=ms_no hz;have HZ:=Hi32 hz;clear hz;obtain ⟨ya,rfl,zy_⟩:=HY.out k hlt;have HCy:=Hi32 zy_;clear zy_;go_upto_region 5 with fail
    rcases sgn3 (y k) with ⟨h1,h2⟩|⟨h1,h2⟩|⟨h1,h2⟩
    ·have HSG:=Hi32 h1;clear h1;have cy_k:=keepA HX2.out (HCy.out);go_wp2_with fail;refine ((HSG.out▸sg7_c (y k) _ (HG.out.ext (HX2.out)) ((HQ.out k hlt).mono (by omega)))).mono ?_;rintro e w3 ⟨rfl,e3⟩;have HX3:=Hi32 (HX2.out.trans e3);clear e3 cy_k;go_wp2_with fail;go_roundw
     case rel=>exact ⟨k+1,by go_num,(ms_3 HZ.out h2),by omega,Hi32 HX3.out⟩
     case measure=>simp [intOf];omega
    ·have HSG:=Hi32 h1;clear h1;have cy_k:=keepA HX2.out (HCy.out);go_wp2_with fail;refine ((HSG.out▸sg7_c (y k) _ (HG.out.ext (HX2.out)) ((HQ.out k hlt).mono (by omega)))).mono ?_;rintro e w3 ⟨rfl,e3⟩;have HX3:=Hi32 (HX2.out.trans e3);clear e3 cy_k;go_wp2_with fail;go_roundw
     case rel=>exact ⟨k+1,by go_num,(ms_00 HZ.out h2),by omega,Hi32 HX3.out⟩
     case measure=>simp [intOf];omega
    ·have HSG:=Hi32 h1;clear h1;have cy_k:=keepA HX2.out (HCy.out);go_wp2_with fail;refine ((HSG.out▸sg7_c (y k) _ (HG.out.ext (HX2.out)) ((HQ.out k hlt).mono (by omega)))).mono ?_;rintro e w3 ⟨rfl,e3⟩;have HX3:=Hi32 (HX2.out.trans e3);clear e3 cy_k;go_wp2_with fail;go_roundw
     case rel=>exact ⟨k+1,by go_num,(ms_00 HZ.out h2),by omega,Hi32 HX3.out⟩
     case measure=>simp [intOf];omega
   ·have hz2:any_ (fun i=>decide (y i<0)) k=true:=by simpa using hz
    have hm0:¬ ms y k=0:=by rw [ms_yes hz2];decide
    have hm2:(ms y k == 0)=false:=by simpa using hm0
    have HZ:=Hi32 hz2;clear hz hz2;go_wp2;go_ret;exact ⟨by rw [merr_ok2 HLE.out HV.out,ms_up (m:=m) HZ.out (by omega)];rfl,HX2.out⟩
  ·have hk2:k=m:=by omega
   have hge:¬ (k:Int)<((m:Nat):Int):=by omega
   go_wp2;go_ret;exact ⟨by rw [merr_ok2 HLE.out HV.out];rfl,HX2.out⟩
theorem mult_bad (m K:Nat) (t:Nat->ByteArray) (ro yo:Option Addr) (rcap ycap:Nat) (w:World) (g:Gd w) (hT:Rs w (.slice yo m ycap) m t) (hts:∀ i,i<m->(t i).size<=1000000) (E:Int) (hE:lerr t m K=E) (hle:¬ E=0) (hm:m<=1000):Calls Tryz.prog 67 #[.slice ro K rcap,.slice yo m ycap] w (Ret w (.int .i64 E)):=by
 have HG:=Hi32 g;have HT:=Hi32 hT;have HTS:=Hi32 hts;have HE:=Hi32 hE;clear g hT hts hE;have hle2:(E == 0)=false:=by simpa using hle
 go_enter Tryz.func67,Tryz.ntmps67;go_wp2_with fail;refine ((HE.out▸list7_c (HG.out.ext ((Ext.refl w))) (HT.out.ext (Ext.refl w)) HTS.out (by omega))).mono ?_;rintro e w1 ⟨rfl,e1⟩;have HX1:Hid (Ext w w1):=Hi32 ((Ext.refl w).trans e1);clear e1;go_wp2_with fail;go_loopw [6,5] (fun x0_ x1_ wx=>∃ k:Nat,x0_ = .int .i64 k/\x1_ = .int .i64 E/\k<=m/\Hid (Ext w wx)) (fun x0_ _ _=>m-(intOf x0_).toNat)
 case atStart=>exact ⟨0,rfl,rfl,Nat.zero_le _,Hi32 HX1.out⟩
 case round =>
  rename World=>w2
  obtain ⟨k,rfl,rfl,hkk,HH⟩:=hrel;have HX2:=Hi32 HH.out;clear HH;by_cases hlt:k<m
  ·have hlt2:(k:Int)<((m:Nat):Int):=by omega
   go_wp2;go_ret;exact ⟨rfl,HX2.out⟩
  ·have hk2:k=m:=by omega
   have hge:¬ (k:Int)<((m:Nat):Int):=by omega
   go_wp2;go_ret;exact ⟨rfl,HX2.out⟩
theorem mult7_c {m K r:Nat} {t:Nat->ByteArray} {ro:Option Addr} {rcap:Nat} {vy:Value} {w:World} (g:Gd w) (hT:Rs w vy m t) (hts:∀ i,i<m->(t i).size<=1000000) (hq:TxQ t m r) (hr:r<=200) (hm:m<=1000):Calls Tryz.prog 67 #[.slice ro K rcap,vy] w (Ret w (.int .i64 (merr t m K))):=by
 have h0:=hT;obtain ⟨yo,ycap,rfl,_,_,hc⟩:=hT;by_cases hle:lerr t m K=0
 ·obtain ⟨rfl,hx⟩:=lerr_ok hle hq;exact mult_ok m (yq t) t ro yo rcap ycap w g h0 hts hle (fun _ _=>rfl) (fun i hi=>by rw [← (hx i hi).1];exact hc i hi) (fun i hi=>(hx i hi).2.mono hr) hm
 ·have:=mult_bad m K t ro yo rcap ycap w g h0 hts _ rfl hle hm;rwa [show lerr t m K=merr t m K by rw [merr,if_pos hle]] at this
theorem made_get {z:Value} {n:Nat}:∀ j,j<n->(madeCells #[z] n)[j]?=some z:=fun j hj=>by
 rw [← Array.getElem?_toList,toList_madeCells_one];simp [hj]
theorem dual_first {P:LP} {y:Nat->Rat} {k n:Nat} {C:Array Value} {g:Nat->ByteArray} (h:∀ j,j<n->C[j]?=some (.string (g j))):∀ j,j<n->(C.setIfInBounds k (.string ⟨#[48]⟩))[j]?=some (.string (if j=k then qs (sfa P y 0 k) else g j)) :=
 cell_upd h (fun _=>by rw [if_pos rfl,sfa_zero,qs_zero]) (fun j _ hne=>by rw [if_neg hne])
theorem dual_set {P:LP} {y:Nat->Rat} {i k n:Nat} {C:Array Value} {g:Nat->ByteArray} (h:∀ j,j<n->C[j]?=some (.string (if j=k then qs (sfa P y i k) else g j))):∀ j,j<n->(C.setIfInBounds k (.string (qs (sfa P y i k+y i*P.A i k))))[j]?=some (.string (if j=k then qs (sfa P y (i+1) k) else g j)) :=
 cell_upd h (fun _=>by rw [if_pos rfl];rfl) (fun j _ hne=>by rw [if_neg hne,if_neg hne])
theorem dual_next {P:LP} {y:Nat->Rat} {i k:Nat} {g:Nat->ByteArray} (h:∀ j,j<k->g j=qs (P.comb y j)) (hi:i=P.m):∀ j,j<k+1->(if j=k then qs (sfa P y i k) else g j)=qs (P.comb y j):=fun j hj=>by
 split
 ·rename_i e;rw [e,hi,sfa_end]
 ·exact h j (by omega)
def DualR (P:LP) (y:Nat->Rat) (w:World) (e:Ending) (w':World):Prop:=∃ vf,e = .returned (.tuple #[vf,.string (qs (P.bnd y))])/\Ext w w'/\Nq w w' vf P.n (P.comb y)
theorem dual7_c (P:LP) (vr vc:Value) (va:Nat->Value) (q:Nat) (w:World) (g:Gd w) (hP:PM P w vr vc va) (vy:Value) (y:Nat->Rat) (r:Nat) (hy:Rq w vy P.m y) (hr:∀ i,i<P.m->QB r (y i)) (hsz:P.m*(r+q+1)<=190) (hqr:q+r<=199) (Q:PQ P) (hn:P.n<=60) (hm:P.m<=300) (qa:∀ i,i<P.m->∀ j,j<P.n->QB q (P.A i j)) (qb:∀ i,i<P.m->QB q (P.B i)):Calls Tryz.prog 68 #[.int .i64 (P.n:Int),vr,vy] w (DualR P y w):=by
 have HPM:=Hi32 hP;have HYR:=Hi32 hy;have HYQ:=Hi32 hr;have HQB:=Hi32 qb;have HG:=Hi32 g;have HQA:=Hi32 qa;have HQP:=Hi32 Q;clear hP hy hr qb g qa Q;have hmk:=run_make_row' (P:=Tryz.prog) 30 34 (.string ⟨#[]⟩) 16 Tryz.underlying30 info_s rfl .i64 .i64 P.n (by omega) (by omega);have h0:¬ (P.n:Int)<0:=by omega
 have HSB:Hid (∀ k,k<=P.m->QB 199 (smq k (fun i=>y i*P.B i))):=Hi32 (fun k hk=>(smq_qb HYQ.out HQB.out k hk).mono (dot_sz hk (by omega)));have HSA:Hid (∀ k,k<=P.m->∀ j,j<P.n->QB 199 (sfa P y k j)):=Hi32 (fun k hk j hj=>(smq_qb HYQ.out (fun i hi=>HQA.out i hi j hj) k hk).mono (dot_sz hk (by omega)));have HPO:=Hi32 HPM.out.obj;have HPF:=Hi32 HPM.out.fac;obtain ⟨co,ccap,ec_,_⟩:=HPM.out.obj;obtain ⟨ro,rcap,er_,_,_,hrr⟩:=HPM.out.rows;subst er_ ec_;have HRR:=Hi32 hrr;clear hrr;have HY0:=Hi32 HYR.out;obtain ⟨yo,ycap,ey_,_,_,hyy⟩:=HYR.out;subst ey_;have HYY:=Hi32 hyy;clear hyy;go_enter Tryz.func68,Tryz.ntmps68;go_upto_region 2 with fail
 refine wp_name (fun W=>Ext w W/\∃ C0,Blk W w.heap.size C0 34/\∀ j,j<P.n->C0[j]?=some (.string ⟨#[]⟩)) ⟨(Ext.refl w).alloc _,_,Blk.new _ _ _,made_get⟩ ?_;clear hmk;rintro w1 ⟨e1,C0,b2,hz⟩;have HX1:=Hi32 e1;have HBz_1:=Hi32 b2;have HC0:=Hi32 hz;clear e1 b2 hz;go_wp2_with fail;go_loopw [9] (fun x0_ wx=>∃ k:Nat,x0_ = .int .i64 k/\k<=P.n/\Hid (Ext w wx/\(∃ CK,∃ gk:Nat->ByteArray,Blk wx w.heap.size CK 34/\(∀ j,j<P.n->CK[j]?=some (.string (gk j)))/\∀ j,j<k->gk j=qs (P.comb y j)))) (fun x0_ _=>P.n-(intOf x0_).toNat)
 case atStart=>exact ⟨0,rfl,Nat.zero_le _,Hi32 ⟨HX1.out,⟨_,fun _=>⟨#[]⟩,HBz_1.out,HC0.out,fun j hj=>absurd hj (Nat.not_lt_zero j)⟩⟩⟩
 case round =>
  rename World=>w2
  obtain ⟨k,rfl,hkk,HH⟩:=hrel;have HX2:=Hi32 HH.out.1;obtain ⟨CK,gk,a1_,a2_,a3_⟩:=HH.out.2;have HBz_2:=Hi32 a1_;have HCK:=Hi32 a2_;have HGK:=Hi32 a3_;clear a1_ a2_ a3_;clear HH;by_cases hlt:k<P.n
  ·have hlt2:(k:Int)<((P.n:Nat):Int):=by omega
   have hltk:k<P.n:=hlt;have cz_k:=HBz_2.out.cell (k) (HCK.out k hltk);have fz_k:=HBz_2.out.free k;go_wp2_with fail;refine wp_name (fun W=>Ext w W/\Blk W (w.heap.size) ((CK).setIfInBounds k (.string ⟨#[48]⟩)) 34) ⟨(HX2.out.setCell (Nat.le_refl _) _),(HBz_2.out.set k (.string ⟨#[48]⟩))⟩ ?_;rintro w3 ⟨e3,bBz_3⟩;have HX3:=Hi32 e3;have HBz_3:=Hi32 bBz_3;clear e3 bBz_3 cz_k fz_k;go_wp2_with fail;go_loopw [10] (fun x0_ wx=>∃ i:Nat,x0_ = .int .i64 i/\i<=P.m/\Hid (Ext w wx/\(∃ CJ,Blk wx w.heap.size CJ 34/\∀ j,j<P.n->CJ[j]?=some (.string (if j=k then qs (sfa P y i k) else gk j))))) (fun x0_ _=>P.m-(intOf x0_).toNat)
   case atStart=>exact ⟨0,rfl,Nat.zero_le _,Hi32 ⟨HX3.out,⟨_,HBz_3.out,dual_first HCK.out⟩⟩⟩
   case round =>
    rename World=>w4
    obtain ⟨i,rfl,hki,HH⟩:=hrel;have HX4:=Hi32 HH.out.1;obtain ⟨CJ,a1_,a2_⟩:=HH.out.2;have HBz_4:=Hi32 a1_;have HCJ:=Hi32 a2_;clear a1_ a2_;clear HH;by_cases hlt:i<P.m
    ·have hlt2:(i:Int)<((P.m:Nat):Int):=by omega
     obtain ⟨ra,o_,rfl,zr_,zs_⟩:=HRR.out i hlt;obtain ⟨fo,fcap,ef_,_,_,hff_⟩:=HPF.out i hlt;rw [ef_] at zr_;obtain ⟨fa,rfl,zf_⟩:=hff_ k hltk;obtain ⟨ya,rfl,zy_⟩:=HYY.out i hlt;have zk_:=HCJ.out k hltk;rw [if_pos rfl] at zk_;have HCr:=Hi32 zr_;have HCf:=Hi32 zf_;have HCy:=Hi32 zy_;have HCk:=Hi32 zk_;clear zr_ zs_ ef_ hff_ zf_ zy_ zk_;go_wp2_with fail;refine region_e [.val (.slice (some ⟨w.heap.size,0,none⟩) P.n P.n),.val (.int .i64 (k:Int)),.val (.slice (some ⟨w.heap.size,0,none⟩) P.n P.n),.val (.int .i64 (k:Int)),.val (.pointer (some ⟨w.heap.size,k,none⟩)),.val (.string (qs (sfa P y i k))),.val (.slice (some ya) P.m ycap),.val (.int .i64 (i:Int)),.val (.pointer (some (ya.add i))),.val (.string (qs (y i))),.val (.slice (some ⟨ra,o_,none⟩) P.m rcap),.val (.int .i64 (i:Int)),.val (.pointer (some ⟨ra,o_+i*2,none⟩)),.val (.pointer (some ⟨ra,o_+i*2,none⟩)),.val (.slice (some fa) P.n fcap),.val (.int .i64 (k:Int)),.val (.pointer (some (fa.add k))),.val (.string (qs (P.A i k))),.val (.string (qs (y i*P.A i k))),.val (.string (qs (sfa P y i k+y i*P.A i k))),.val (.pointer (some ⟨w.heap.size,k,none⟩)),.eff] (fun L g W=>(if L 21=true then Blk W (w.heap.size) ((CJ).setIfInBounds k (.string (qs (sfa P y i k+y i*P.A i k)))) 34 else Blk W (w.heap.size) (CJ) 34)) (S:=fun k=>k=w.heap.size) (by kernel_rfl) (by kernel_rfl) (by kernel_rfl) (Mv.refl HX4.out (fun k h=>(fun e=>Nat.le_trans (show w.heap.size<=w.heap.size from (Nat.le_refl _)) (Nat.le_of_eq e.symm)) h)) ?_ ?_ ?_ ?_ (fun gv_ w5 hm_ he_=>?_)
     ·exact fun gz_=>(by rw [if_neg (by decide)];exact HBz_4.out.drew)
     ·exact fun L g W W1 h e=>ite_ext (h) (fun h=>h.ext e) (fun h=>h.ext e)
     ·intro i v L g W hi h;have n21_:i≠21:=fun e=>by subst e;exact absurd (show false=true from hi) (by decide)
      simp only [up_ne n21_,ug_ne n21_];exact h
     ·skip
      refine RI 8 (.slice (some ⟨w.heap.size,0,none⟩) P.n P.n)<|RI 9 (.int .i64 (k:Int))<|RI 8 (.slice (some ⟨w.heap.size,0,none⟩) P.n P.n)<|RI 9 (.int .i64 (k:Int))<|R2 2 3 ?_;refine RV (fun A_ hs_ K_ hK_=>?_) ?_;· have q33_:=hs_.val 4;have n21_:=hs_.no 21 (by decide) (by kernel_rfl);have e21_:=hs_.e;rw [if_neg (by rw [n21_];decide)] at e21_;have cz_k:=e21_.cell (k) HCk.out;clear e21_ n21_;go_simp;exact fin_ hK_
      refine RI 2 (.slice (some ya) P.m ycap)<|RI 10 (.int .i64 (i:Int))<|R2 6 7<|J2 (fun hs_=>hs_.val 8) (fun hs_=>keepA hs_.mv.ext (HCy.out))<|RI 1 (.slice (some ⟨ra,o_,none⟩) P.m rcap)<|RI 10 (.int .i64 (i:Int))<|R2 10 11<|R1 12<|J2 (fun hs_=>hs_.val 13) (fun hs_=>keepA hs_.mv.ext (HCr.out))<|RI 9 (.int .i64 (k:Int))<|R2 14 15<|J2 (fun hs_=>hs_.val 16) (fun hs_=>keepA hs_.mv.ext (HCf.out)) ?_;refine RV (fun A_ hs_ K_ hK_=>?_) ?_;· have q38_:=hs_.val 9;have q46_:=hs_.val 17;go_simp;refine (p3_times (y i) (P.A i k) _ (HG.out.ext hs_.mv.ext) ((HYQ.out i hlt).mono (by omega)) ((HQA.out i hlt k hltk).mono (by omega))).mono ?_;rintro e W9_ ⟨rfl,e9_⟩;exact hK_.out _ e9_
      refine RV (fun A_ hs_ K_ hK_=>?_) ?_;· have q34_:=hs_.val 5;have q47_:=hs_.val 18;go_simp;refine (p3_plus (sfa P y i k) (y i*P.A i k) _ (HG.out.ext hs_.mv.ext) ((HSA.out i (by omega) k hltk).mono (by omega)) (((HYQ.out i hlt).mul (HQA.out i hlt k hltk)).mono (by omega))).mono ?_;rintro e W9_ ⟨rfl,e9_⟩;exact hK_.out _ e9_
      refine R2 0 1 ?_;refine RnEL.cons (fun L_ g_ A_ W_ hs_=>?_) ?_
      ·have q49_:=hs_.val 20;have q48_:=hs_.val 19;refine RnE.eff fun K_ hK_=>?_;have n_:=hs_.not;have e_:=hs_.e;rw [if_neg (by rw [n_];decide)] at e_;have c_0:=e_.cell (k) HCk.out;have f_0:=e_.free k;have HE_:=Hi32 e_;have HM_:=Hi32 hs_.mv;have HEE_:=Hi32 hs_.e;clear e_ n_;go_simp;exact hK_.out undef _ (HM_.out.setCell (Or.inl (rfl)) _) (by rw [up_at,if_pos rfl];exact (HE_.out.set k _))
      exact RnEL.nil
     simp only [fse,Ke.value,puts,Act.put,List.setIfInBounds_toArray,List.set_cons_zero,List.set_cons_succ];have HX5:Hid (Ext w w5):=Hi32 hm_.ext;have HBz_5:Hid (Blk w5 (w.heap.size) ((CJ).setIfInBounds k (.string (qs (sfa P y i k+y i*P.A i k)))) 34):=Hi32 (by have h_:=he_;rw [if_pos rfl] at h_;exact h_);clear hm_ he_;go_wp2_with fail;go_roundw
     case rel=>exact ⟨i+1,by go_num,by omega,Hi32 ⟨HX5.out,⟨_,HBz_5.out,dual_set HCJ.out⟩⟩⟩
     case measure=>simp [intOf];omega
    ·have hk2:i=P.m:=by omega
     have hge:¬ (i:Int)<((P.m:Nat):Int):=by omega
     go_wp2_with fail;go_roundw
     case rel=>exact ⟨k+1,by go_num,by omega,Hi32 ⟨HX4.out,⟨_,fun j=>if j=k then qs (sfa P y i k) else gk j,HBz_4.out,HCJ.out,dual_next HGK.out hk2⟩⟩⟩
     case measure=>simp [intOf];omega
  ·have hk2:k=P.n:=by omega
   have hge:¬ (k:Int)<((P.n:Nat):Int):=by omega
   go_wp2_with fail;go_loopw [12,11] (fun x0_ x1_ wx=>∃ i:Nat,x0_ = .int .i64 i/\x1_ = .string (qs (smq i (fun i=>y i*P.B i)))/\i<=P.m/\Hid (Ext w wx/\Blk wx (w.heap.size) (CK) 34)) (fun x0_ _ _=>P.m-(intOf x0_).toNat)
   case atStart=>exact ⟨0,rfl,by simp only [smq];rw [qs_zero],Nat.zero_le _,Hi32 ⟨HX2.out,HBz_2.out⟩⟩
   case round =>
    rename World=>w3
    obtain ⟨i,rfl,rfl,hki,HH⟩:=hrel;have HX3:=Hi32 HH.out.1;have HBz_3:=Hi32 HH.out.2;clear HH;by_cases hlt:i<P.m
    ·have hlt2:(i:Int)<((P.m:Nat):Int):=by omega
     obtain ⟨ra,o_,rfl,zr_,zs_⟩:=HRR.out i hlt;obtain ⟨ya,rfl,zy_⟩:=HYY.out i hlt;have HCs:=Hi32 zs_;have HCy:=Hi32 zy_;clear zr_ zs_ zy_;go_wp2_with fail;refine region_e [.val (.string (qs (smq i (fun i=>y i*P.B i)))),.val (.slice (some ya) P.m ycap),.val (.int .i64 (i:Int)),.val (.pointer (some (ya.add i))),.val (.string (qs (y i))),.val (.slice (some ⟨ra,o_,none⟩) P.m rcap),.val (.int .i64 (i:Int)),.val (.pointer (some ⟨ra,o_+i*2,none⟩)),.val (.pointer (some ⟨ra,o_+i*2+1,none⟩)),.val (.string (qs (P.B i))),.val (.string (qs (y i*P.B i))),.val (.string (qs (smq i (fun i=>y i*P.B i)+y i*P.B i))),.val (.string (qs (smq i (fun i=>y i*P.B i)+y i*P.B i)))] (fun L g W=>True) (S:=fun _=>False) (by kernel_rfl) (by kernel_rfl) (by kernel_rfl) (Mv.refl HX3.out (fun k h=>h.elim)) ?_ ?_ ?_ ?_ (fun gv_ w4 hm_ he_=>?_)
     ·exact fun _=>trivial
     ·exact fun _ _ _ _ h _=>h
     ·exact fun _ _ _ _ _ _ h=>h
     ·skip
      refine RI 11 (.string (qs (smq i (fun i=>y i*P.B i))))<|RI 2 (.slice (some ya) P.m ycap)<|RI 12 (.int .i64 (i:Int))<|R2 1 2<|J2 (fun hs_=>hs_.val 3) (fun hs_=>keepA hs_.mv.ext (HCy.out))<|RI 1 (.slice (some ⟨ra,o_,none⟩) P.m rcap)<|RI 12 (.int .i64 (i:Int))<|R2 5 6<|R1 7<|J2 (fun hs_=>hs_.val 8) (fun hs_=>keepA hs_.mv.ext (HCs.out)) ?_;refine RV (fun A_ hs_ K_ hK_=>?_) ?_;· have q60_:=hs_.val 4;have q65_:=hs_.val 9;go_simp;refine (p3_times (y i) (P.B i) _ (HG.out.ext hs_.mv.ext) ((HYQ.out i hlt).mono (by omega)) ((HQB.out i hlt).mono (by omega))).mono ?_;rintro e W9_ ⟨rfl,e9_⟩;exact hK_.out _ e9_
      refine RV (fun A_ hs_ K_ hK_=>?_) ?_;· have q56_:=hs_.val 0;have q66_:=hs_.val 10;go_simp;refine (p3_plus (smq i (fun i=>y i*P.B i)) (y i*P.B i) _ (HG.out.ext hs_.mv.ext) ((HSB.out i (by omega)).mono (by omega)) (((HYQ.out i hlt).mul (HQB.out i hlt)).mono (by omega))).mono ?_;rintro e W9_ ⟨rfl,e9_⟩;exact hK_.out _ e9_
      exact R1 11<|RnEL.nil
     simp only [fse,Ke.value,puts,Act.put,List.setIfInBounds_toArray,List.set_cons_zero,List.set_cons_succ];have HX4:Hid (Ext w w4):=Hi32 hm_.ext;have HBz_4:=Hi32 (hm_.blk HBz_3.out (fun h=>h));clear hm_ he_;go_wp2_with fail;go_roundw
     case rel=>exact ⟨i+1,by go_num,by rw [smq],by omega,Hi32 ⟨HX4.out,HBz_4.out⟩⟩
     case measure=>simp [intOf];omega
    ·have hk2:i=P.m:=by omega
     have hge:¬ (i:Int)<((P.m:Nat):Int):=by omega
     go_wp2;go_ret2;exact ⟨_,by rw [LP.bnd,← hk2];rfl,HX3.out,_,_,rfl,Nat.le_refl _,HBz_3.out,fun j hj=>by rw [HCK.out j hj,HGK.out j (by omega)]⟩
end Go.Proofs.YtmahadmefplbnaaGreatDoor
