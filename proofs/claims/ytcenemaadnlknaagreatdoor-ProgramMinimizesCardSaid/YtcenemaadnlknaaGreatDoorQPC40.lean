/- Part 40 of the proof: S22, S42. -/
import Derived.Test.YtcenemaadnlknaaGreatDoorQPC34
set_option maxRecDepth 100000
set_option maxHeartbeats 2000000
set_option linter.unusedSimpArgs false
set_option linter.unusedVariables false
theorem Go.Proofs.YtcenemaadnlknaaGreatDoor.Hi40 {p:Prop} (h:p):Go.RowKit.Hid p:=h
namespace Go.Proofs.YtcenemaadnlknaaGreatDoor
open Go Go.RowKit
def ntz (t:Nat->ByteArray) (i:Nat):Bool:=decide (t i≠⟨#[48]⟩)
section
variable {X w w':World} {is:Nat->Bool} {k:Nat} {v:Value}
end
def FLP (w:World) (is:Nat->Bool) (m:Nat) (e:Ending) (w':World):Prop:=∃ v,e = .returned v/\Ext w w'/\FL w w' is m v
theorem psupport_go (ao_:Option Addr) (ac m:Nat) (t:Nat->ByteArray) (w:World) (hr:∀ i,i<m->∃ a,ao_=some a/\w.cell? (a.add i)=some (.string (t i))) (hm:m<=1000):Calls Tryz.prog 23 #[.agg #[.slice ao_ m ac]] w (FLP w (ntz t) m):=by
 have HR:=Hi40 hr
 clear hr
 go_enter Tryz.func23,Tryz.ntmps23
 go_wp2_with fail
 refine wp_name (fun W=>Ext w W/\Blk W (w.heap.size) (#[.slice ao_ m ac]) 40) ⟨((Ext.refl w).alloc _),(Blk.nw (#[.slice ao_ m ac]) 40)⟩ ?_
 rintro w1 ⟨e1,bB0_1⟩
 have HX1:=Hi40 e1;have HB0_1:=Hi40 bB0_1
 have HGEB0:Hid (w.heap.size<=w.heap.size):=Hi40 (Nat.le_refl _)
 clear e1 bB0_1
 have HFL_1:Hid (FL w w1 (ntz t) 0 (.slice none 0 0)):=Hi40 (FL.nil _ _ _)
 go_wp2_with fail
 go_loopw [9,3] (fun x0_ x1_ wx=>∃ k:Nat,∃ la:Option Addr,∃ ln:Nat,∃ lc:Nat,x0_ = .int .i64 k/\x1_ = .slice la ln lc/\k<=m/\Hid (Ext w wx/\Blk wx (w.heap.size) (#[.slice ao_ m ac]) 40/\FL w wx (ntz t) k (.slice la ln lc))) (fun x0_ _ _=>m-(intOf x0_).toNat)
 case atStart=>exact ⟨0,none,0,0,rfl,rfl,Nat.zero_le _,Hi40 ⟨HX1.out,HB0_1.out,HFL_1.out⟩⟩
 case round =>
  rename World=>w2
  obtain ⟨k,la,ln,lc,rfl,rfl,hkk,HH⟩:=hrel
  have HX2:=Hi40 HH.out.1
  have HB0_2:=Hi40 HH.out.2.1
  have HFL_2:=Hi40 HH.out.2.2
  clear HH
  by_cases hlt:k<m
  ·have hlt2:(k:Int)<((m:Nat):Int):=by omega
   obtain ⟨aa,rfl,zc_⟩:=HR.out k hlt
   have HCa:=Hi40 zc_;clear zc_
   have ca_k:=keepA HX2.out (HCa.out)
   go_upto_region 5 with fail
   clear ca_k
   by_cases hz:t k=⟨#[48]⟩
   ·have hs_:ntz t k=false:=decide_eq_false (fun h=>h hz)
    have HSK:=Hi40 hs_;clear hs_
    go_wp2_with fail
    go_roundw
    case rel=>exact ⟨k+1,_,_,_,by go_num,rfl,by omega,Hi40 ⟨HX2.out,HB0_2.out,(FL.skip HFL_2.out HSK.out)⟩⟩
    case measure=>simp [intOf];omega
   ·have hz2:((t k).toList == [48])=false:=tl_ne hz
    have hs_:ntz t k=true:=decide_eq_true hz
    have HSK:=Hi40 hs_;clear hs_
    go_wp2_with (
     at_builtin
     refine wpList_plain rfl fun K_ hK_=>op_append2 (X:=w) (H:=fun _ => .int .i64 (k:Int)) (ad:=⟨w2.heap.size,0,none⟩) (m:=1) (c:=1) (v:=.slice la ln lc) rfl rfl rfl under_i info_i rfl (HX2.out.alloc _) (HFL_2.out.alloc _) (fun _=>by decide) (fun j hj=>by obtain rfl:j=0:=(by omega);exact blk_add (Blk.nw (#[.int .i64 (k:Int)]) 3) rfl) (fun _ _=>rfl) (fl_sz (by omega)) (fl_sz2 (by omega)) (fun a3_ n3_ c3_ w3 hA_=>hK_ _ _ ?_)
     have HX3:Hid (Ext w w3):=Hi40 hA_.mv.ext
     have HB0_3:Hid (Blk w3 (w.heap.size) (#[.slice (some aa) m ac]) 40):=Hi40 (hA_.mv.blk (HB0_2.out.alloc _) (Osl.not_vob HFL_2.out HB0_2.out (by decide)))
     have HFL_3:Hid (FL w w3 (ntz t) (k+1) (.slice a3_ n3_ c3_)):=Hi40 (FL.push hA_ HSK.out)
     clear hA_
    )
    go_roundw
    case rel=>exact ⟨k+1,_,_,_,by go_num,rfl,by omega,Hi40 ⟨HX3.out,HB0_3.out,HFL_3.out⟩⟩
    case measure=>simp [intOf];omega
  ·have hk2:k=m:=by omega
   have hge:¬ (k:Int)<((m:Nat):Int):=by omega
   go_wp2
   go_ret
   exact ⟨_,rfl,HX2.out,hk2▸HFL_2.out⟩
theorem minimizes_walk (vv:Int) (m wcap:Nat) (wo:Option Addr) (c:Nat->Nat->Int) (o0 o1 o2:Int) (w:World) (g:Gd w) (hpl:PlOk w vv m wo c o0 o1 o2):Calls Tryz.prog 9 #[.agg #[.int .u8 vv,.slice wo m wcap,.int .i8 o0,.int .i8 o1,.int .i8 o2]] w (Ret w (.bool true)):=by
 have HG:=Hi40 g
 have HPL:=Hi40 hpl
 clear g hpl
 go_enter Tryz.func9,Tryz.ntmps9
 by_cases hm6:m<=6
 ·have HM6:=Hi40 hm6;have HFT:Hid (decide (m<=6)=true):=Hi40 (decide_eq_true hm6)
  go_wp2_with fail
  refine (known7_c _ (HG.out.ext (((Ext.refl w).alloc _)))).mono ?_;rintro e w1 ⟨rfl,e1⟩
  have HX1:Hid (Ext w w1):=Hi40 (((Ext.refl w).alloc _).trans e1)
  have HB0_1:Hid (Blk w1 (w.heap.size) (#[.int .u8 vv,.slice wo m wcap,.int .i8 o0,.int .i8 o1,.int .i8 o2]) 26):=Hi40 (((Blk.nw (#[.int .u8 vv,.slice wo m wcap,.int .i8 o0,.int .i8 o1,.int .i8 o2]) 26)).ext e1)
  have HGEB0:Hid (w.heap.size<=w.heap.size):=Hi40 (Nat.le_refl _)
  clear e1
  have c0_0:=HB0_1.out.cell 0 rfl
  have c0_1:=HB0_1.out.cell 1 rfl
  have c0_2:=HB0_1.out.cell 2 rfl
  have c0_3:=HB0_1.out.cell 3 rfl
  have c0_4:=HB0_1.out.cell 4 rfl
  go_wp2_with fail
  refine ((HFT.out▸fits7_c vv m wcap wo o0 o1 o2 _)).mono ?_;rintro e w2 ⟨rfl,e2⟩
  have HX2:=Hi40 (HX1.out.trans e2)
  have HB0_2:=Hi40 (HB0_1.out.ext e2)
  clear e2 c0_0 c0_1 c0_2 c0_3 c0_4
  have c0_0:=HB0_2.out.cell 0 rfl
  have c0_1:=HB0_2.out.cell 1 rfl
  have c0_2:=HB0_2.out.cell 2 rfl
  have c0_3:=HB0_2.out.cell 3 rfl
  have c0_4:=HB0_2.out.cell 4 rfl
  go_wp2_with fail
  refine (make7 (HPL.out.ext HX2.out) (HG.out.ext (HX2.out)) HM6.out).mono ?_;rintro e w3 ⟨P,ro,rcap,co,ccap,va,rfl,e3,pm_,sm_,pe_,s3_⟩
  have HX3:=Hi40 (HX2.out.trans e3)
  clear e3 c0_0 c0_1 c0_2 c0_3 c0_4
  have HPM:=Hi40 pm_;have HSM:=Hi40 sm_;have HPE:=Hi40 pe_;have HS3:=Hi40 s3_;clear pm_ sm_ pe_ s3_
  have HM1_3:Hid (Fr w3 w3):=Hi40 (Fr.refl _)
  go_upto_region 4 with fail
  have HGFM1B1:Hid (w3.heap.size<=w3.heap.size):=Hi40 (Nat.le_trans HM1_3.out.out.size (by first|omega|(simp only [];omega)|(simp;omega)))
  refine wp_name (fun W=>Ext w W/\Fr w3 W/\Blk W (w3.heap.size) (#[.int .i64 (P.n:Int),.slice ro P.m rcap,.slice co P.n ccap]) 32) ⟨(HX3.out.alloc _),(HM1_3.out.alloc _),(Blk.nw (#[.int .i64 (P.n:Int),.slice ro P.m rcap,.slice co P.n ccap]) 32)⟩ ?_
  rintro w4 ⟨e4,bM1_4,bB1_4⟩
  have HX4:=Hi40 e4;have HM1_4:=Hi40 bM1_4;have HB1_4:=Hi40 bB1_4
  have HGEB1:Hid (w.heap.size<=w3.heap.size):=Hi40 (HX3.out.size)
  clear e4 bM1_4 bB1_4
  have c1_0:=HB1_4.out.cell 0 rfl
  have c1_1:=HB1_4.out.cell 1 rfl
  have c1_2:=HB1_4.out.cell 2 rfl
  go_wp2_with fail
  refine (min_sm (HG.out.ext (HX4.out)) (HPM.out.ext HM1_4.out.out) HSM.out).mono ?_;rintro e w5 ⟨v_,rfl,e5,sv_⟩
  have HX5:=Hi40 (HX4.out.trans e5)
  have HM1_5:=Hi40 (HM1_4.out.ext e5)
  have HB1_5:=Hi40 (HB1_4.out.ext e5)
  clear e5 c1_0 c1_1 c1_2
  obtain ⟨kd2,val2,o12,m12,d12,o22,m22,d22,o32,m32,d32,t12,t22,t32,rfl,hv_,a1_,a2_,a3_,vf_⟩:=sv_.texts (by have:=HSM.out.n;omega) (by have:=HSM.out.m;omega)
  have HVS2:=Hi40 hv_;have HT1M2:=Hi40 a1_;have HT2M2:=Hi40 a2_;have HT3M2:=Hi40 a3_;have HVF2:=Hi40 vf_;clear hv_ a1_ a2_ a3_ vf_ sv_
  have HM2_5:Hid (Fr w5 w5):=Hi40 (Fr.refl _)
  go_upto_region 5 with fail
  have HGFM1B2:Hid (w3.heap.size<=w5.heap.size):=Hi40 (Nat.le_trans HM1_5.out.out.size (by first|omega|(simp only [];omega)|(simp;omega)))
  have HGFM2B2:Hid (w5.heap.size<=w5.heap.size):=Hi40 (Nat.le_trans HM2_5.out.out.size (by first|omega|(simp only [];omega)|(simp;omega)))
  refine wp_name (fun W=>Ext w W/\Fr w3 W/\Blk W (w3.heap.size) (#[.int .i64 (P.n:Int),.slice ro P.m rcap,.slice co P.n ccap]) 32/\Fr w5 W/\Blk W (w5.heap.size) (#[.int .i64 kd2,.string val2,.slice o12 m12 d12,.slice o22 m22 d22,.slice o32 m32 d32]) 42) ⟨(HX5.out.alloc _),(HM1_5.out.alloc _),(HB1_5.out.alloc _),(HM2_5.out.alloc _),(Blk.nw (#[.int .i64 kd2,.string val2,.slice o12 m12 d12,.slice o22 m22 d22,.slice o32 m32 d32]) 42)⟩ ?_
  rintro w6 ⟨e6,bM1_6,bB1_6,bM2_6,bB2_6⟩
  have HX6:=Hi40 e6;have HM1_6:=Hi40 bM1_6;have HB1_6:=Hi40 bB1_6;have HM2_6:=Hi40 bM2_6;have HB2_6:=Hi40 bB2_6
  have HGEB2:Hid (w.heap.size<=w5.heap.size):=Hi40 (HX5.out.size)
  clear e6 bM1_6 bB1_6 bM2_6 bB2_6
  have c1_0:=HB1_6.out.cell 0 rfl
  have c1_1:=HB1_6.out.cell 1 rfl
  have c1_2:=HB1_6.out.cell 2 rfl
  have c2_0:=HB2_6.out.cell 0 rfl
  have c2_1:=HB2_6.out.cell 1 rfl
  have c2_2:=HB2_6.out.cell 2 rfl
  have c2_3:=HB2_6.out.cell 3 rfl
  have c2_4:=HB2_6.out.cell 4 rfl
  go_wp2_with fail
  refine ((HVF2.out▸lverify_sm (HG.out.ext (HX6.out)) (HPM.out.ext HM1_6.out.out) HSM.out kd2 val2 HVS2.out (HT1M2.out.ext HM2_6.out.out) (HT2M2.out.ext HM2_6.out.out) (HT3M2.out.ext HM2_6.out.out))).mono ?_;rintro e w7 ⟨rfl,e7⟩
  have HX7:=Hi40 (HX6.out.trans e7)
  have HM1_7:=Hi40 (HM1_6.out.ext e7)
  have HB1_7:=Hi40 (HB1_6.out.ext e7)
  have HM2_7:=Hi40 (HM2_6.out.ext e7)
  have HB2_7:=Hi40 (HB2_6.out.ext e7)
  clear e7 c1_0 c1_1 c1_2 c2_0 c2_1 c2_2 c2_3 c2_4
  have c1_0:=HB1_7.out.cell 0 rfl
  have c1_1:=HB1_7.out.cell 1 rfl
  have c1_2:=HB1_7.out.cell 2 rfl
  have c2_0:=HB2_7.out.cell 0 rfl
  have c2_1:=HB2_7.out.cell 1 rfl
  have c2_2:=HB2_7.out.cell 2 rfl
  have c2_3:=HB2_7.out.cell 3 rfl
  have c2_4:=HB2_7.out.cell 4 rfl
  go_wp2_with fail
  refine ((HVF2.out▸verify_sm (HG.out.ext (HX7.out)) (HPM.out.ext HM1_7.out.out) HSM.out kd2 val2 HVS2.out (HT1M2.out.ext HM2_7.out.out) (HT2M2.out.ext HM2_7.out.out) (HT3M2.out.ext HM2_7.out.out))).mono ?_;rintro e w8 ⟨rfl,e8⟩
  have HX8:=Hi40 (HX7.out.trans e8)
  have HM1_8:=Hi40 (HM1_7.out.ext e8)
  have HM2_8:=Hi40 (HM2_7.out.ext e8)
  clear e8 c1_0 c1_1 c1_2 c2_0 c2_1 c2_2 c2_3 c2_4
  go_wp2
  go_ret
  exact ⟨rfl,HX8.out⟩
 ·have HFT:Hid (decide (m<=6)=false):=Hi40 (decide_eq_false hm6)
  go_wp2_with fail
  refine (known7_c _ (HG.out.ext (((Ext.refl w).alloc _)))).mono ?_;rintro e w1 ⟨rfl,e1⟩
  have HX1:Hid (Ext w w1):=Hi40 (((Ext.refl w).alloc _).trans e1)
  have HB0_1:Hid (Blk w1 (w.heap.size) (#[.int .u8 vv,.slice wo m wcap,.int .i8 o0,.int .i8 o1,.int .i8 o2]) 26):=Hi40 (((Blk.nw (#[.int .u8 vv,.slice wo m wcap,.int .i8 o0,.int .i8 o1,.int .i8 o2]) 26)).ext e1)
  have HGEB0:Hid (w.heap.size<=w.heap.size):=Hi40 (Nat.le_refl _)
  clear e1
  have c0_0:=HB0_1.out.cell 0 rfl
  have c0_1:=HB0_1.out.cell 1 rfl
  have c0_2:=HB0_1.out.cell 2 rfl
  have c0_3:=HB0_1.out.cell 3 rfl
  have c0_4:=HB0_1.out.cell 4 rfl
  go_wp2_with fail
  refine ((HFT.out▸fits7_c vv m wcap wo o0 o1 o2 _)).mono ?_;rintro e w2 ⟨rfl,e2⟩
  have HX2:=Hi40 (HX1.out.trans e2)
  have HB0_2:=Hi40 (HB0_1.out.ext e2)
  clear e2 c0_0 c0_1 c0_2 c0_3 c0_4
  go_wp2_with fail
  refine (known7_c _ (HG.out.ext (HX2.out))).mono ?_;rintro e w3 ⟨rfl,e3⟩
  have HX3:=Hi40 (HX2.out.trans e3)
  have HB0_3:=Hi40 (HB0_2.out.ext e3)
  clear e3
  go_wp2
  go_ret
  exact ⟨rfl,HX3.out⟩
end Go.Proofs.YtcenemaadnlknaaGreatDoor
