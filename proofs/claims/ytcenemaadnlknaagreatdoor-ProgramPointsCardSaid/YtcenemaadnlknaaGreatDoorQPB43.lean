/- Part 43 of the proof: S22, S28, S44. -/
import Derived.Test.YtcenemaadnlknaaGreatDoorQPB32
import Derived.Test.YtcenemaadnlknaaGreatDoorQPB42
set_option maxRecDepth 100000
set_option maxHeartbeats 2000000
set_option linter.unusedSimpArgs false
set_option linter.unusedVariables false
theorem Go.Proofs.YtcenemaadnlknaaGreatDoor.Hi43 {p:Prop} (h:p):Go.RowKit.Hid p:=h
namespace Go.Proofs.YtcenemaadnlknaaGreatDoor
open Go Go.RowKit
section
variable {X w w':World} {is:Nat->Bool} {k:Nat} {v:Value}
end
def VioP (P:LP) (x:Nat->Rat) (w:World) (e:Ending) (w':World):Prop:=∃ v,e = .returned (.tuple #[v,.int .i64 0])/\Ext w w'/\FL w w' (vio P x) P.m v
theorem qcmp_gtb {a b:Rat}:0<qcmp a b ↔ b<a:=by
 unfold qcmp
 by_cases h:a<b
 ·rw [if_pos h];exact ⟨fun h2=>absurd h2 (by decide),fun h2=>by grind⟩
 ·rw [if_neg h]
  by_cases h3:a=b
  ·rw [if_pos h3];exact ⟨fun h2=>absurd h2 (by decide),fun h2=>by grind⟩
  ·rw [if_neg h3];exact ⟨fun _=>by grind,fun _=>by decide⟩
theorem pviol_c (P:LP) (vr vc:Value) (va:Nat->Value) (q:Nat) (w:World) (g:Gd w) (hP:PM P w vr vc va) (vx:Value) (x:Nat->Rat) (r:Nat) (hx:Rq w vx P.n x) (hr:∀ j,j<P.n->QB r (x j)) (hr2:r<=200) (hsz:P.n*(q+r+1)<=198) (Q:PQ P) (hn:P.n<=60) (hm:P.m<=300) (hq1:1<=q) (hq2:q<=200) (qa:∀ i,i<P.m->∀ j,j<P.n->QB q (P.A i j)):Calls Tryz.prog 29 #[.agg #[.int .i64 (P.n:Int),vr,vc],vx] w (VioP P x w):=by
 have HPM:=Hi43 hP
 have HXR:=Hi43 hx
 have HXQ:=Hi43 hr
 have HG:=Hi43 g
 have HQA:=Hi43 qa
 have HQP:=Hi43 Q
 clear hP hx hr g qa Q
 have HPO:=Hi43 HPM.out.obj;have HPF:=Hi43 HPM.out.fac
 obtain ⟨co,ccap,ec_,_⟩:=HPM.out.obj
 obtain ⟨ro,rcap,er_,_,_,hrr⟩:=HPM.out.rows
 subst er_ ec_
 have HRR:=Hi43 hrr;clear hrr
 go_enter Tryz.func29,Tryz.ntmps29
 go_wp2_with fail
 refine (check_go P _ _ va _ (HG.out.ext (((Ext.refl w).alloc _))) (HPM.out.ext ((Ext.refl w).alloc _)) HQP.out hn hm).mono ?_;rintro e w1 ⟨rfl,e1⟩
 have HX1:Hid (Ext w w1):=Hi43 (((Ext.refl w).alloc _).trans e1)
 have HB0_1:Hid (Blk w1 (w.heap.size) (#[.int .i64 (P.n:Int),.slice ro P.m rcap,.slice co P.n ccap]) 32):=Hi43 (((Blk.new' (w:=_) (cs:=#[.int .i64 (P.n:Int),.slice ro P.m rcap,.slice co P.n ccap]) (t:=32) (by first|rfl|(simp only [World.size_alloc];done)|(simp only [World.size_alloc];omega)|simp))).ext e1)
 have HGEB0:Hid (w.heap.size<=w.heap.size):=Hi43 (Nat.le_refl _)
 clear e1
 have c0_0:=HB0_1.out.cell 0 rfl
 go_wp2_with fail
 refine (plist_ok (HXR.out.ext HX1.out) (HG.out.ext (HX1.out)) (fun j hj=>(HXQ.out j hj).mono hr2) hn).mono ?_;rintro e w2 ⟨rfl,e2⟩
 have HX2:=Hi43 (HX1.out.trans e2)
 have HB0_2:=Hi43 (HB0_1.out.ext e2)
 clear e2 c0_0
 have c0_1:=HB0_2.out.cell 1 rfl
 go_wp2_with fail
 clear c0_1
 have HFL_2:Hid (FL w w2 (vio P x) 0 (.slice none 0 0)):=Hi43 (FL.nil _ _ _)
 go_wp2_with fail
 go_loopw [26,8] (fun x0_ x1_ wx=>∃ k:Nat,∃ la:Option Addr,∃ ln:Nat,∃ lc:Nat,x0_ = .int .i64 k/\x1_ = .slice la ln lc/\k<=P.m/\Hid (Ext w wx/\Blk wx (w.heap.size) (#[.int .i64 (P.n:Int),.slice ro P.m rcap,.slice co P.n ccap]) 32/\FL w wx (vio P x) k (.slice la ln lc))) (fun x0_ _ _=>P.m-(intOf x0_).toNat)
 case atStart=>exact ⟨0,none,0,0,rfl,rfl,Nat.zero_le _,Hi43 ⟨HX2.out,HB0_2.out,HFL_2.out⟩⟩
 case round =>
  rename World=>w3
  obtain ⟨k,la,ln,lc,rfl,rfl,hkk,HH⟩:=hrel
  have HX3:=Hi43 HH.out.1
  have HB0_3:=Hi43 HH.out.2.1
  have HFL_3:=Hi43 HH.out.2.2
  clear HH
  by_cases hlt:k<P.m
  ·have hlt2:(k:Int)<((P.m:Nat):Int):=by omega
   obtain ⟨ra,o_,rfl,zr_,zs_⟩:=HRR.out k hlt
   obtain ⟨fo,fcap,ef_,_⟩:=HPF.out k hlt
   rw [ef_] at zr_
   have HFK:=Hi43 (ef_▸HPF.out k hlt)
   have HCr:=Hi43 zr_;have HCs:=Hi43 zs_;clear zr_ zs_ ef_
   have cr_o____k___2:=keepA HX3.out (HCr.out)
   have cr_o____k___2___1:=keepA HX3.out (HCs.out)
   go_upto_region 11 with fail
   refine wp_name (fun W=>Ext w W/\Blk W (w.heap.size) (#[.int .i64 (P.n:Int),.slice (some ⟨ra,o_,none⟩) P.m rcap,.slice co P.n ccap]) 32/\FL w W (vio P x) k (.slice la ln lc)/\Blk W (w3.heap.size) (#[.slice fo P.n fcap,.string (qs (P.B k))]) 56) ⟨(HX3.out.alloc _),(HB0_3.out.alloc _),(HFL_3.out.alloc _),(Blk.new' (w:=_) (cs:=#[.slice fo P.n fcap,.string (qs (P.B k))]) (t:=56) (by first|rfl|(simp only [World.size_alloc];done)|(simp only [World.size_alloc];omega)|simp))⟩ ?_
   rintro w4 ⟨e4,bB0_4,bFL_4,bB1_4⟩
   have HX4:=Hi43 e4;have HB0_4:=Hi43 bB0_4;have HFL_4:=Hi43 bFL_4;have HB1_4:=Hi43 bB1_4
   have HGEB1:Hid (w.heap.size<=w3.heap.size):=Hi43 (HX3.out.size)
   clear e4 bB0_4 bFL_4 bB1_4 cr_o____k___2 cr_o____k___2___1
   go_wp2_with fail
   refine region_e [.val (.pointer (some ⟨w3.heap.size,0,none⟩)),.val (.slice fo P.n fcap),.val (vx),.val (.string (qs (smq P.n (fun j=>P.A k j*x j)))),.val (.pointer (some ⟨w3.heap.size,1,none⟩)),.val (.string (qs (P.B k))),.val (.int .i64 (qcmp (smq P.n (fun j=>P.A k j*x j)) (P.B k))),.val (.bool (decide (0<qcmp (smq P.n (fun j=>P.A k j*x j)) (P.B k))))] (fun L g W=>True) (S:=fun _=>False) (by kernel_rfl) (by kernel_rfl) (by kernel_rfl) (Mv.refl HX4.out (fun k h=>h.elim)) ?_ ?_ ?_ ?_ (fun gv_ w5 hm_ he_=>?_)
   ·exact fun _=>trivial
   ·exact fun _ _ _ _ h _=>h
   ·exact fun _ _ _ _ _ _ h=>h
   ·skip
    refine RV (fun A_ hs_ K_ hK_=>?_) ?_;· have q10_:=(hs_.old 10:A_.tmps[10]?.getD undef = .pointer (some ⟨w3.heap.size,0,none⟩));go_simp;exact fin_ hK_
    refine RV (fun A_ hs_ K_ hK_=>?_) ?_;· have q31_:=hs_.val 0;have c1_0:=(hs_.mv.blk HB1_4.out (fun h=>h)).cell 0 rfl;go_simp;exact fin_ hK_
    refine RV (fun A_ hs_ K_ hK_=>?_) ?_;· have q1_:=(hs_.old 1:A_.tmps[1]?.getD undef=vx);go_simp;exact fin_ hK_
    refine RV (fun A_ hs_ K_ hK_=>?_) ?_;· have q32_:=hs_.val 1;have q33_:=hs_.val 2;go_simp;refine (dot_c _ _ P.n (P.A k) x _ (HG.out.ext hs_.mv.ext) (HFK.out.ext hs_.mv.ext) (HXR.out.ext hs_.mv.ext) (HQA.out k hlt) HXQ.out (by omega) hsz).mono ?_;rintro e W9_ ⟨rfl,e9_⟩;exact hK_.out _ e9_
    refine RV (fun A_ hs_ K_ hK_=>?_) ?_;· have q10_:=(hs_.old 10:A_.tmps[10]?.getD undef = .pointer (some ⟨w3.heap.size,0,none⟩));go_simp;exact fin_ hK_
    refine RV (fun A_ hs_ K_ hK_=>?_) ?_;· have q35_:=hs_.val 4;have c1_1:=(hs_.mv.blk HB1_4.out (fun h=>h)).cell 1 rfl;go_simp;exact fin_ hK_
    refine RV (fun A_ hs_ K_ hK_=>?_) ?_;· have q34_:=hs_.val 3;have q36_:=hs_.val 5;go_simp;refine (rcompare_c (smq P.n (fun j=>P.A k j*x j)) (P.B k) _ (HG.out.ext hs_.mv.ext) ((smq_qb (HQA.out k hlt) HXQ.out P.n (Nat.le_refl _)).mono (dot_sz (Nat.le_refl _) hsz)) (HQP.out.B k hlt) (by omega) (by omega)).mono ?_;rintro e W9_ ⟨rfl,e9_⟩;exact hK_.out _ e9_
    refine RV (fun A_ hs_ K_ hK_=>?_) ?_;· have q37_:=hs_.val 6;go_simp;exact fin_ hK_
    exact RnEL.nil
   simp only [fse,Ke.value,puts,Act.put,List.setIfInBounds_toArray,List.set_cons_zero,List.set_cons_succ]
   have HX5:Hid (Ext w w5):=Hi43 hm_.ext
   have HB0_5:=Hi43 (hm_.blk HB0_4.out (fun h=>h))
   have HFL_5:=Hi43 (HFL_4.out.mv hm_ (fun i hi h=>h))
   clear hm_ he_
   by_cases hz:0<qcmp (smq P.n (fun j=>P.A k j*x j)) (P.B k)
   ·have hz2:decide (0<qcmp (smq P.n (fun j=>P.A k j*x j)) (P.B k))=true:=decide_eq_true hz
    have hs_:vio P x k=true:=decide_eq_true (qcmp_gtb.1 hz)
    have HSK:=Hi43 hs_;clear hs_
    go_wp2_with (
     at_builtin
     refine wpList_plain rfl fun K_ hK_=>op_append2 (X:=w) (H:=fun _ => .int .i64 (k:Int)) (ad:=⟨w5.heap.size,0,none⟩) (m:=1) (c:=1) (v:=.slice la ln lc) rfl rfl rfl under_i info_i rfl (HX5.out.alloc _) (HFL_5.out.alloc _) (fun _=>by decide) (fun j hj=>by obtain rfl:j=0:=(by omega);exact blk_add (Blk.new' (w:=_) (cs:=#[.int .i64 (k:Int)]) (t:=3) (by first|rfl|(simp only [World.size_alloc];done)|(simp only [World.size_alloc];omega)|simp)) rfl) (fun _ _=>rfl) (fl_sz (by omega)) (fl_sz2 (by omega)) (fun a6_ n6_ c6_ w6 hA_=>hK_ _ _ ?_)
     have HX6:Hid (Ext w w6):=Hi43 hA_.mv.ext
     have HB0_6:Hid (Blk w6 (w.heap.size) (#[.int .i64 (P.n:Int),.slice (some ⟨ra,o_,none⟩) P.m rcap,.slice co P.n ccap]) 32):=Hi43 (hA_.mv.blk (HB0_5.out.alloc _) (Osl.not_vob HFL_5.out HB0_5.out (by decide)))
     have HFL_6:Hid (FL w w6 (vio P x) (k+1) (.slice a6_ n6_ c6_)):=Hi43 (FL.push hA_ HSK.out)
     clear hA_
    )
    go_roundw
    case rel=>exact ⟨k+1,_,_,_,by go_num,rfl,by omega,Hi43 ⟨HX6.out,HB0_6.out,HFL_6.out⟩⟩
    case measure=>simp [intOf];omega
   ·have hz2:decide (0<qcmp (smq P.n (fun j=>P.A k j*x j)) (P.B k))=false:=decide_eq_false hz
    have hs_:vio P x k=false:=decide_eq_false (fun h=>hz (qcmp_gtb.2 h))
    have HSK:=Hi43 hs_;clear hs_
    go_wp2_with fail
    go_roundw
    case rel=>exact ⟨k+1,_,_,_,by go_num,rfl,by omega,Hi43 ⟨HX5.out,HB0_5.out,(FL.skip HFL_5.out HSK.out)⟩⟩
    case measure=>simp [intOf];omega
  ·have hk2:k=P.m:=by omega
   have hge:¬ (k:Int)<((P.m:Nat):Int):=by omega
   go_wp2
   go_ret2
   exact ⟨_,rfl,HX3.out,hk2▸HFL_3.out⟩
theorem pworth_c (P:LP) (vr vc:Value) (va:Nat->Value) (q:Nat) (w:World) (g:Gd w) (hP:PM P w vr vc va) (vx:Value) (x:Nat->Rat) (r:Nat) (hx:Rq w vx P.n x) (hr:∀ j,j<P.n->QB r (x j)) (hr2:r<=200) (hsz:P.n*(q+r+1)<=198) (qc:∀ j,j<P.n->QB q (P.C j)) (Q:PQ P) (hn:P.n<=60) (hm:P.m<=300) (hq1:1<=q) (hq2:q<=200) (qa:∀ i,i<P.m->∀ j,j<P.n->QB q (P.A i j)):Calls Tryz.prog 30 #[.agg #[.int .i64 (P.n:Int),vr,vc],vx] w (Ret w (.tuple #[.string (qs (P.obj x)),.int .i64 0])):=by
 have HPM:=Hi43 hP
 have HQC:=Hi43 qc
 have HXR:=Hi43 hx
 have HXQ:=Hi43 hr
 have HG:=Hi43 g
 have HQA:=Hi43 qa
 have HQP:=Hi43 Q
 clear hP qc hx hr g qa Q
 have HPO:=Hi43 HPM.out.obj;have HPF:=Hi43 HPM.out.fac
 obtain ⟨co,ccap,ec_,_⟩:=HPM.out.obj
 obtain ⟨ro,rcap,er_,_,_,hrr⟩:=HPM.out.rows
 subst er_ ec_
 have HRR:=Hi43 hrr;clear hrr
 go_enter Tryz.func30,Tryz.ntmps30
 go_wp2_with fail
 refine (check_go P _ _ va _ (HG.out.ext (((Ext.refl w).alloc _))) (HPM.out.ext ((Ext.refl w).alloc _)) HQP.out hn hm).mono ?_;rintro e w1 ⟨rfl,e1⟩
 have HX1:Hid (Ext w w1):=Hi43 (((Ext.refl w).alloc _).trans e1)
 have HB0_1:Hid (Blk w1 (w.heap.size) (#[.int .i64 (P.n:Int),.slice ro P.m rcap,.slice co P.n ccap]) 32):=Hi43 (((Blk.new' (w:=_) (cs:=#[.int .i64 (P.n:Int),.slice ro P.m rcap,.slice co P.n ccap]) (t:=32) (by first|rfl|(simp only [World.size_alloc];done)|(simp only [World.size_alloc];omega)|simp))).ext e1)
 have HGEB0:Hid (w.heap.size<=w.heap.size):=Hi43 (Nat.le_refl _)
 clear e1
 have c0_0:=HB0_1.out.cell 0 rfl
 go_wp2_with fail
 refine (plist_ok (HXR.out.ext HX1.out) (HG.out.ext (HX1.out)) (fun j hj=>(HXQ.out j hj).mono hr2) hn).mono ?_;rintro e w2 ⟨rfl,e2⟩
 have HX2:=Hi43 (HX1.out.trans e2)
 have HB0_2:=Hi43 (HB0_1.out.ext e2)
 clear e2 c0_0
 have c0_2:=HB0_2.out.cell 2 rfl
 go_wp2_with fail
 refine (dot_c _ _ P.n P.C x _ (HG.out.ext (HX2.out)) (HPO.out.ext HX2.out) (HXR.out.ext HX2.out) HQC.out HXQ.out (by omega) hsz).mono ?_;rintro e w3 ⟨rfl,e3⟩
 have HX3:=Hi43 (HX2.out.trans e3)
 clear e3 c0_2
 go_wp2_with fail
 refine (wrong_no (smq P.n (fun j=>P.C j*x j)) _ (HG.out.ext (HX3.out)) (((smq_qb HQC.out HXQ.out P.n (Nat.le_refl _)).mono (dot_sz (Nat.le_refl _) hsz)).mono (by omega))).mono ?_;rintro e w4 ⟨rfl,e4⟩
 have HX4:=Hi43 (HX3.out.trans e4)
 clear e4
 go_wp2
 go_ret2
 exact ⟨rfl,HX4.out⟩
theorem pviol_bad (P:LP) (vr vc:Value) (va:Nat->Value) (q:Nat) (w:World) (g:Gd w) (hP:PM P w vr vc va) (vx:Value) (m:Nat) (t:Nat->ByteArray) (hT:Rs w vx m t) (hts:∀ i,i<m->(t i).size<=1000000) (hm6:m<=1000000) (hle:lerr t m P.n≠0) (Q:PQ P) (hn:P.n<=60) (hm:P.m<=300) (hq1:1<=q) (hq2:q<=200) (qa:∀ i,i<P.m->∀ j,j<P.n->QB q (P.A i j)):Calls Tryz.prog 29 #[.agg #[.int .i64 (P.n:Int),vr,vc],vx] w (Ret w (.tuple #[.slice none 0 0,.int .i64 (lerr t m P.n)])):=by
 have HPM:=Hi43 hP
 have HT:=Hi43 hT
 have HTS:=Hi43 hts
 have HG:=Hi43 g
 have HQA:=Hi43 qa
 have HQP:=Hi43 Q
 clear hP hT hts g qa Q
 have HPO:=Hi43 HPM.out.obj;have HPF:=Hi43 HPM.out.fac
 obtain ⟨co,ccap,ec_,_⟩:=HPM.out.obj
 obtain ⟨ro,rcap,er_,_,_,hrr⟩:=HPM.out.rows
 subst er_ ec_
 have HRR:=Hi43 hrr;clear hrr
 go_enter Tryz.func29,Tryz.ntmps29
 go_wp2_with fail
 refine (check_go P _ _ va _ (HG.out.ext (((Ext.refl w).alloc _))) (HPM.out.ext ((Ext.refl w).alloc _)) HQP.out hn hm).mono ?_;rintro e w1 ⟨rfl,e1⟩
 have HX1:Hid (Ext w w1):=Hi43 (((Ext.refl w).alloc _).trans e1)
 have HB0_1:Hid (Blk w1 (w.heap.size) (#[.int .i64 (P.n:Int),.slice ro P.m rcap,.slice co P.n ccap]) 32):=Hi43 (((Blk.new' (w:=_) (cs:=#[.int .i64 (P.n:Int),.slice ro P.m rcap,.slice co P.n ccap]) (t:=32) (by first|rfl|(simp only [World.size_alloc];done)|(simp only [World.size_alloc];omega)|simp))).ext e1)
 have HGEB0:Hid (w.heap.size<=w.heap.size):=Hi43 (Nat.le_refl _)
 clear e1
 have hz2:¬ lerr t m P.n=0:=hle
 have c0_0:=HB0_1.out.cell 0 rfl
 go_wp2_with fail
 refine (plist_c (HG.out.ext (HX1.out)) (HT.out.ext HX1.out) HTS.out hm6).mono ?_;rintro e w2 ⟨rfl,e2⟩
 have HX2:=Hi43 (HX1.out.trans e2)
 clear e2 c0_0
 go_wp2
 go_ret2
 exact ⟨rfl,HX2.out⟩
theorem pworth_bad (P:LP) (vr vc:Value) (va:Nat->Value) (q:Nat) (w:World) (g:Gd w) (hP:PM P w vr vc va) (vx:Value) (m:Nat) (t:Nat->ByteArray) (hT:Rs w vx m t) (hts:∀ i,i<m->(t i).size<=1000000) (hm6:m<=1000000) (hle:lerr t m P.n≠0) (Q:PQ P) (hn:P.n<=60) (hm:P.m<=300) (hq1:1<=q) (hq2:q<=200) (qa:∀ i,i<P.m->∀ j,j<P.n->QB q (P.A i j)):Calls Tryz.prog 30 #[.agg #[.int .i64 (P.n:Int),vr,vc],vx] w (Ret w (.tuple #[.string ⟨#[]⟩,.int .i64 (lerr t m P.n)])):=by
 have HPM:=Hi43 hP
 have HT:=Hi43 hT
 have HTS:=Hi43 hts
 have HG:=Hi43 g
 have HQA:=Hi43 qa
 have HQP:=Hi43 Q
 clear hP hT hts g qa Q
 have HPO:=Hi43 HPM.out.obj;have HPF:=Hi43 HPM.out.fac
 obtain ⟨co,ccap,ec_,_⟩:=HPM.out.obj
 obtain ⟨ro,rcap,er_,_,_,hrr⟩:=HPM.out.rows
 subst er_ ec_
 have HRR:=Hi43 hrr;clear hrr
 go_enter Tryz.func30,Tryz.ntmps30
 go_wp2_with fail
 refine (check_go P _ _ va _ (HG.out.ext (((Ext.refl w).alloc _))) (HPM.out.ext ((Ext.refl w).alloc _)) HQP.out hn hm).mono ?_;rintro e w1 ⟨rfl,e1⟩
 have HX1:Hid (Ext w w1):=Hi43 (((Ext.refl w).alloc _).trans e1)
 have HB0_1:Hid (Blk w1 (w.heap.size) (#[.int .i64 (P.n:Int),.slice ro P.m rcap,.slice co P.n ccap]) 32):=Hi43 (((Blk.new' (w:=_) (cs:=#[.int .i64 (P.n:Int),.slice ro P.m rcap,.slice co P.n ccap]) (t:=32) (by first|rfl|(simp only [World.size_alloc];done)|(simp only [World.size_alloc];omega)|simp))).ext e1)
 have HGEB0:Hid (w.heap.size<=w.heap.size):=Hi43 (Nat.le_refl _)
 clear e1
 have hz2:¬ lerr t m P.n=0:=hle
 have c0_0:=HB0_1.out.cell 0 rfl
 go_wp2_with fail
 refine (plist_c (HG.out.ext (HX1.out)) (HT.out.ext HX1.out) HTS.out hm6).mono ?_;rintro e w2 ⟨rfl,e2⟩
 have HX2:=Hi43 (HX1.out.trans e2)
 clear e2 c0_0
 go_wp2
 go_ret2
 exact ⟨rfl,HX2.out⟩
theorem dot7_go (a1o_ a2o_:Option Addr) (c1_ c2_ n:Nat) (x y:Nat->Rat) {q r:Nat} (w:World) (g:Gd w) (h1:∀ i,i<n->∃ a,a1o_=some a/\w.cell? (a.add i)=some (.string (qs (x i)))) (h2:∀ i,i<n->∃ a,a2o_=some a/\w.cell? (a.add i)=some (.string (qs (y i)))) (hq:∀ i,i<n->QB q (x i)) (hr:∀ i,i<n->QB r (y i)) (hm:n<=1000000) (hq2:q+r<=199) (hsz:n*(q+r+1)<=198):Calls Tryz.prog 31 #[.slice a1o_ n c1_,.slice a2o_ n c2_] w (Ret w (.string (qs (smq n (fun j=>x j*y j))))):=by
 have HG:=Hi43 g
 have HA:=Hi43 h1
 have HB:=Hi43 h2
 have HQ:=Hi43 hq
 have HR:=Hi43 hr
 clear g h1 h2 hq hr
 have HS:Hid (∀ i,i<=n->QB 199 (smq i (fun j=>x j*y j))):=Hi43 (fun i hi=>(smq_qb HQ.out HR.out i hi).mono (dot_sz hi hsz))
 go_enter Tryz.func31,Tryz.ntmps31
 go_wp2_with fail
 go_loopw [6,5] (fun x0_ x1_ wx=>∃ k:Nat,x0_ = .int .i64 k/\x1_ = .string (qs (smq k (fun j=>x j*y j)))/\k<=n/\Hid (Ext w wx)) (fun x0_ _ _=>n-(intOf x0_).toNat)
 case atStart=>exact ⟨0,rfl,by simp only [smq];rw [qs_zero],Nat.zero_le _,Hi43 (Ext.refl w)⟩
 case round =>
  rename World=>w1
  obtain ⟨k,rfl,rfl,hkk,HH⟩:=hrel
  have HX1:=Hi43 HH.out
  clear HH
  by_cases hlt:k<n
  ·have hlt2:(k:Int)<((n:Nat):Int):=by omega
   obtain ⟨aa,rfl,za_⟩:=HA.out k hlt
   obtain ⟨ab,rfl,zb_⟩:=HB.out k hlt
   have HCa:=Hi43 za_;have HCb:=Hi43 zb_;clear za_ zb_
   go_wp2_with fail
   refine region_e [.val (.string (qs (smq k (fun j=>x j*y j)))),.val (.slice (some aa) n c1_),.val (.int .i64 (k:Int)),.val (.pointer (some (aa.add k))),.val (.string (qs (x k))),.val (.slice (some ab) n c2_),.val (.int .i64 (k:Int)),.val (.pointer (some (ab.add k))),.val (.string (qs (y k))),.val (.string (qs (x k*y k))),.val (.string (qs (smq k (fun j=>x j*y j)+x k*y k))),.val (.string (qs (smq k (fun j=>x j*y j)+x k*y k)))] (fun L g W=>True) (S:=fun _=>False) (by kernel_rfl) (by kernel_rfl) (by kernel_rfl) (Mv.refl HX1.out (fun k h=>h.elim)) ?_ ?_ ?_ ?_ (fun gv_ w2 hm_ he_=>?_)
   ·exact fun _=>trivial
   ·exact fun _ _ _ _ h _=>h
   ·exact fun _ _ _ _ _ _ h=>h
   ·skip
    refine RV (fun A_ hs_ K_ hK_=>?_) ?_;· have q5_:=(hs_.old 5:A_.tmps[5]?.getD undef = .string (qs (smq k (fun j=>x j*y j))));go_simp;exact fin_ hK_
    refine RV (fun A_ hs_ K_ hK_=>?_) ?_;· have q0_:=(hs_.old 0:A_.tmps[0]?.getD undef = .slice (some aa) n c1_);go_simp;exact fin_ hK_
    refine RV (fun A_ hs_ K_ hK_=>?_) ?_;· have q6_:=(hs_.old 6:A_.tmps[6]?.getD undef = .int .i64 (k:Int));go_simp;exact fin_ hK_
    refine RV (fun A_ hs_ K_ hK_=>?_) ?_;· have q14_:=hs_.val 1;have q15_:=hs_.val 2;go_simp;exact fin_ hK_
    refine RV (fun A_ hs_ K_ hK_=>?_) ?_;· have q16_:=hs_.val 3;have ca_k:=keepA hs_.mv.ext (HCa.out);go_simp;exact fin_ hK_
    refine RV (fun A_ hs_ K_ hK_=>?_) ?_;· have q1_:=(hs_.old 1:A_.tmps[1]?.getD undef = .slice (some ab) n c2_);go_simp;exact fin_ hK_
    refine RV (fun A_ hs_ K_ hK_=>?_) ?_;· have q6_:=(hs_.old 6:A_.tmps[6]?.getD undef = .int .i64 (k:Int));go_simp;exact fin_ hK_
    refine RV (fun A_ hs_ K_ hK_=>?_) ?_;· have q18_:=hs_.val 5;have q19_:=hs_.val 6;go_simp;exact fin_ hK_
    refine RV (fun A_ hs_ K_ hK_=>?_) ?_;· have q20_:=hs_.val 7;have cb_k:=keepA hs_.mv.ext (HCb.out);go_simp;exact fin_ hK_
    refine RV (fun A_ hs_ K_ hK_=>?_) ?_;· have q17_:=hs_.val 4;have q21_:=hs_.val 8;go_simp;refine (p3_times (x k) (y k) _ (HG.out.ext hs_.mv.ext) ((HQ.out k hlt).mono (by omega)) ((HR.out k hlt).mono (by omega))).mono ?_;rintro e W9_ ⟨rfl,e9_⟩;exact hK_.out _ e9_
    refine RV (fun A_ hs_ K_ hK_=>?_) ?_;· have q13_:=hs_.val 0;have q22_:=hs_.val 9;go_simp;refine (p3_plus (smq k (fun j=>x j*y j)) (x k*y k) _ (HG.out.ext hs_.mv.ext) ((HS.out k (by omega)).mono (by omega)) (((HQ.out k hlt).mul (HR.out k hlt)).mono (by omega))).mono ?_;rintro e W9_ ⟨rfl,e9_⟩;exact hK_.out _ e9_
    refine RV (fun A_ hs_ K_ hK_=>?_) ?_;· have q23_:=hs_.val 10;go_simp;exact fin_ hK_
    exact RnEL.nil
   simp only [fse,Ke.value,puts,Act.put,List.setIfInBounds_toArray,List.set_cons_zero,List.set_cons_succ]
   have HX2:Hid (Ext w w2):=Hi43 hm_.ext
   clear hm_ he_
   go_wp2_with fail
   go_roundw
   case rel=>exact ⟨k+1,by go_num,by rw [smq],by omega,Hi43 HX2.out⟩
   case measure=>simp [intOf];omega
  ·have hk2:k=n:=by omega
   have hge:¬ (k:Int)<((n:Nat):Int):=by omega
   go_wp2
   go_ret
   exact ⟨by rw [← hk2];rfl,HX1.out⟩
theorem dot7_c (va vb:Value) (n:Nat) (x y:Nat->Rat) {q r:Nat} (w:World) (g:Gd w) (ha:Rq w va n x) (hb:Rq w vb n y) (hq:∀ i,i<n->QB q (x i)) (hr:∀ i,i<n->QB r (y i)) (hm:n<=1000000) (hq2:q+r<=199) (hsz:n*(q+r+1)<=198) :
    Calls Tryz.prog 31 #[va,vb] w (Ret w (.string (qs (smq n (fun j=>x j*y j))))):=by
 obtain ⟨a1,c1,rfl,_,_,h1⟩:=ha
 obtain ⟨a2,c2,rfl,_,_,h2⟩:=hb
 exact dot7_go a1 a2 c1 c2 n x y w g h1 h2 hq hr hm hq2 hsz
theorem sgn3b {x:Rat} (h:x.num.sign=1):0<x:=by
 by_cases h1:x<0
 ·rw [num_sign_neg h1] at h;exact absurd h (by decide)
 ·by_cases h2:x=0
  ·rw [h2] at h;exact absurd h (by decide)
  ·grind
theorem sgn3c {x:Rat} {s:Int} (h:0<x) (hs:s≠1):¬ x.num.sign=s:=by rw [num_sign_pos h];exact fun e=>hs e.symm
theorem dot_sz3 {n q r:Nat} (h:n*(q+r+1)<=150):1+n*(q+r+1)<=151:=by omega
def VioR (P:LP) (x:Nat->Rat) (w:World) (e:Ending) (w':World):Prop:=∃ v,e = .returned v/\Ext w w'/\FL w w' (vio P x) P.m v
theorem viol7_c (P:LP) (vr vc:Value) (va:Nat->Value) (q:Nat) (w:World) (g:Gd w) (hP:PM P w vr vc va) (vx:Value) (x:Nat->Rat) (r:Nat) (hx:Rq w vx P.n x) (hr:∀ j,j<P.n->QB r (x j)) (hsz:P.n*(q+r+1)<=150) (hqr:q+r<=40) (Q:PQ P) (hn:P.n<=60) (hm:P.m<=300) (qa:∀ i,i<P.m->∀ j,j<P.n->QB q (P.A i j)) (qb:∀ i,i<P.m->QB q (P.B i)):Calls Tryz.prog 22 #[vr,vx] w (VioR P x w):=by
 have HPM:=Hi43 hP
 have HXR:=Hi43 hx
 have HXQ:=Hi43 hr
 have HG:=Hi43 g
 have HQA:=Hi43 qa
 have HQP:=Hi43 Q
 have HQB:=Hi43 qb
 clear hP hx hr g qa Q qb
 have HPO:=Hi43 HPM.out.obj;have HPF:=Hi43 HPM.out.fac
 obtain ⟨co,ccap,ec_,_⟩:=HPM.out.obj
 obtain ⟨ro,rcap,er_,_,_,hrr⟩:=HPM.out.rows
 subst er_ ec_
 have HRR:=Hi43 hrr;clear hrr
 go_enter Tryz.func22,Tryz.ntmps22
 go_wp2_with fail
 have HFL_0:Hid (FL w w (vio P x) 0 (.slice none 0 0)):=Hi43 (FL.nil _ _ _)
 go_wp2_with fail
 go_loopw [6,5] (fun x0_ x1_ wx=>∃ k:Nat,∃ la:Option Addr,∃ ln:Nat,∃ lc:Nat,x0_ = .int .i64 k/\x1_ = .slice la ln lc/\k<=P.m/\Hid (Ext w wx/\FL w wx (vio P x) k (.slice la ln lc))) (fun x0_ _ _=>P.m-(intOf x0_).toNat)
 case atStart=>exact ⟨0,none,0,0,rfl,rfl,Nat.zero_le _,Hi43 ⟨(Ext.refl w),HFL_0.out⟩⟩
 case round =>
  rename World=>w1
  obtain ⟨k,la,ln,lc,rfl,rfl,hkk,HH⟩:=hrel
  have HX1:=Hi43 HH.out.1
  have HFL_1:=Hi43 HH.out.2
  clear HH
  by_cases hlt:k<P.m
  ·have hlt2:(k:Int)<((P.m:Nat):Int):=by omega
   obtain ⟨ra,o_,rfl,zr_,zs_⟩:=HRR.out k hlt
   obtain ⟨fo,fcap,ef_,_⟩:=HPF.out k hlt
   rw [ef_] at zr_
   have HFK:=Hi43 (ef_▸HPF.out k hlt)
   have HCr:=Hi43 zr_;have HCs:=Hi43 zs_;clear zr_ zs_ ef_
   go_upto_region 5 with fail
   rcases sgn3 (smq P.n (fun j=>P.A k j*x j)+-P.B k) with ⟨h1,h2⟩|⟨h1,h2⟩|⟨h1,h2⟩
   ·have HSG:=Hi43 h1;clear h1
    have hs_:vio P x k=false:=decide_eq_false (fun h=>absurd HSG.out (sgn3c (by grind) (by decide)))
    have HSK:=Hi43 hs_;clear hs_
    go_wp2_with fail
    refine region_e [.val (.slice (some ⟨ra,o_,none⟩) P.m rcap),.val (.int .i64 (k:Int)),.val (.pointer (some ⟨ra,o_+k*2,none⟩)),.val (.pointer (some ⟨ra,o_+k*2,none⟩)),.val (.slice fo P.n fcap),.val (vx),.val (.string (qs (smq P.n (fun j=>P.A k j*x j)))),.val (.slice (some ⟨ra,o_,none⟩) P.m rcap),.val (.int .i64 (k:Int)),.val (.pointer (some ⟨ra,o_+k*2,none⟩)),.val (.pointer (some ⟨ra,o_+k*2+1,none⟩)),.val (.string (qs (P.B k))),.val (.string (qs (-P.B k))),.val (.string (qs (smq P.n (fun j=>P.A k j*x j)+-P.B k))),.val (.int .i64 (-1)),.val (.bool false)] (fun L g W=>True) (S:=fun _=>False) (by kernel_rfl) (by kernel_rfl) (by kernel_rfl) (Mv.refl HX1.out (fun k h=>h.elim)) ?_ ?_ ?_ ?_ (fun gv_ w2 hm_ he_=>?_)
    ·exact fun _=>trivial
    ·exact fun _ _ _ _ h _=>h
    ·exact fun _ _ _ _ _ _ h=>h
    ·skip
     refine RV (fun A_ hs_ K_ hK_=>?_) ?_;· have q0_:=(hs_.old 0:A_.tmps[0]?.getD undef = .slice (some ⟨ra,o_,none⟩) P.m rcap);go_simp;exact fin_ hK_
     refine RV (fun A_ hs_ K_ hK_=>?_) ?_;· have q6_:=(hs_.old 6:A_.tmps[6]?.getD undef = .int .i64 (k:Int));go_simp;exact fin_ hK_
     refine RV (fun A_ hs_ K_ hK_=>?_) ?_;· have q13_:=hs_.val 0;have q14_:=hs_.val 1;go_simp;exact fin_ hK_
     refine RV (fun A_ hs_ K_ hK_=>?_) ?_;· have q15_:=hs_.val 2;go_simp;exact fin_ hK_
     refine RV (fun A_ hs_ K_ hK_=>?_) ?_;· have q16_:=hs_.val 3;have cr_o____k___2:=keepA hs_.mv.ext (HCr.out);go_simp;exact fin_ hK_
     refine RV (fun A_ hs_ K_ hK_=>?_) ?_;· have q1_:=(hs_.old 1:A_.tmps[1]?.getD undef=vx);go_simp;exact fin_ hK_
     refine RV (fun A_ hs_ K_ hK_=>?_) ?_;· have q17_:=hs_.val 4;have q18_:=hs_.val 5;go_simp;refine (dot7_c _ _ P.n (P.A k) x _ (HG.out.ext hs_.mv.ext) (HFK.out.ext hs_.mv.ext) (HXR.out.ext hs_.mv.ext) (HQA.out k hlt) HXQ.out (by omega) (by omega) (by omega)).mono ?_;rintro e W9_ ⟨rfl,e9_⟩;exact hK_.out _ e9_
     refine RV (fun A_ hs_ K_ hK_=>?_) ?_;· have q0_:=(hs_.old 0:A_.tmps[0]?.getD undef = .slice (some ⟨ra,o_,none⟩) P.m rcap);go_simp;exact fin_ hK_
     refine RV (fun A_ hs_ K_ hK_=>?_) ?_;· have q6_:=(hs_.old 6:A_.tmps[6]?.getD undef = .int .i64 (k:Int));go_simp;exact fin_ hK_
     refine RV (fun A_ hs_ K_ hK_=>?_) ?_;· have q20_:=hs_.val 7;have q21_:=hs_.val 8;go_simp;exact fin_ hK_
     refine RV (fun A_ hs_ K_ hK_=>?_) ?_;· have q22_:=hs_.val 9;go_simp;exact fin_ hK_
     refine RV (fun A_ hs_ K_ hK_=>?_) ?_;· have q23_:=hs_.val 10;have cr_o____k___2___1:=keepA hs_.mv.ext (HCs.out);go_simp;exact fin_ hK_
     refine RV (fun A_ hs_ K_ hK_=>?_) ?_;· have q24_:=hs_.val 11;go_simp;refine (p3_neg (P.B k) _ (HG.out.ext hs_.mv.ext) ((HQB.out k hlt).mono (by omega))).mono ?_;rintro e W9_ ⟨rfl,e9_⟩;exact hK_.out _ e9_
     refine RV (fun A_ hs_ K_ hK_=>?_) ?_;· have q19_:=hs_.val 6;have q25_:=hs_.val 12;go_simp;refine (p3_plus (smq P.n (fun j=>P.A k j*x j)) (-P.B k) _ (HG.out.ext hs_.mv.ext) (((smq_qb (HQA.out k hlt) HXQ.out P.n (Nat.le_refl _)).mono (dot_sz3 hsz)).mono (by omega)) ((HQB.out k hlt).neg.mono (by omega))).mono ?_;rintro e W9_ ⟨rfl,e9_⟩;exact hK_.out _ e9_
     refine RV (fun A_ hs_ K_ hK_=>?_) ?_;· have q26_:=hs_.val 13;go_simp;refine ((HSG.out▸sg7_c (smq P.n (fun j=>P.A k j*x j)+-P.B k) _ (HG.out.ext hs_.mv.ext) ((((smq_qb (HQA.out k hlt) HXQ.out P.n (Nat.le_refl _)).mono (dot_sz3 hsz)).add (HQB.out k hlt).neg).mono (by omega)))).mono ?_;rintro e W9_ ⟨rfl,e9_⟩;exact hK_.out _ e9_
     refine RV (fun A_ hs_ K_ hK_=>?_) ?_;· have q27_:=hs_.val 14;go_simp;exact fin_ hK_
     exact RnEL.nil
    simp only [fse,Ke.value,puts,Act.put,List.setIfInBounds_toArray,List.set_cons_zero,List.set_cons_succ]
    have HX2:Hid (Ext w w2):=Hi43 hm_.ext
    have HFL_2:=Hi43 (HFL_1.out.mv hm_ (fun i hi h=>h))
    clear hm_ he_
    go_wp2_with fail
    go_roundw
    case rel=>exact ⟨k+1,_,_,_,by go_num,rfl,by omega,Hi43 ⟨HX2.out,(FL.skip HFL_2.out HSK.out)⟩⟩
    case measure=>simp [intOf];omega
   ·have HSG:=Hi43 h1;clear h1
    have hs_:vio P x k=false:=decide_eq_false (fun h=>absurd HSG.out (sgn3c (by grind) (by decide)))
    have HSK:=Hi43 hs_;clear hs_
    go_wp2_with fail
    refine region_e [.val (.slice (some ⟨ra,o_,none⟩) P.m rcap),.val (.int .i64 (k:Int)),.val (.pointer (some ⟨ra,o_+k*2,none⟩)),.val (.pointer (some ⟨ra,o_+k*2,none⟩)),.val (.slice fo P.n fcap),.val (vx),.val (.string (qs (smq P.n (fun j=>P.A k j*x j)))),.val (.slice (some ⟨ra,o_,none⟩) P.m rcap),.val (.int .i64 (k:Int)),.val (.pointer (some ⟨ra,o_+k*2,none⟩)),.val (.pointer (some ⟨ra,o_+k*2+1,none⟩)),.val (.string (qs (P.B k))),.val (.string (qs (-P.B k))),.val (.string (qs (smq P.n (fun j=>P.A k j*x j)+-P.B k))),.val (.int .i64 0),.val (.bool false)] (fun L g W=>True) (S:=fun _=>False) (by kernel_rfl) (by kernel_rfl) (by kernel_rfl) (Mv.refl HX1.out (fun k h=>h.elim)) ?_ ?_ ?_ ?_ (fun gv_ w2 hm_ he_=>?_)
    ·exact fun _=>trivial
    ·exact fun _ _ _ _ h _=>h
    ·exact fun _ _ _ _ _ _ h=>h
    ·skip
     refine RV (fun A_ hs_ K_ hK_=>?_) ?_;· have q0_:=(hs_.old 0:A_.tmps[0]?.getD undef = .slice (some ⟨ra,o_,none⟩) P.m rcap);go_simp;exact fin_ hK_
     refine RV (fun A_ hs_ K_ hK_=>?_) ?_;· have q6_:=(hs_.old 6:A_.tmps[6]?.getD undef = .int .i64 (k:Int));go_simp;exact fin_ hK_
     refine RV (fun A_ hs_ K_ hK_=>?_) ?_;· have q13_:=hs_.val 0;have q14_:=hs_.val 1;go_simp;exact fin_ hK_
     refine RV (fun A_ hs_ K_ hK_=>?_) ?_;· have q15_:=hs_.val 2;go_simp;exact fin_ hK_
     refine RV (fun A_ hs_ K_ hK_=>?_) ?_;· have q16_:=hs_.val 3;have cr_o____k___2:=keepA hs_.mv.ext (HCr.out);go_simp;exact fin_ hK_
     refine RV (fun A_ hs_ K_ hK_=>?_) ?_;· have q1_:=(hs_.old 1:A_.tmps[1]?.getD undef=vx);go_simp;exact fin_ hK_
     refine RV (fun A_ hs_ K_ hK_=>?_) ?_;· have q17_:=hs_.val 4;have q18_:=hs_.val 5;go_simp;refine (dot7_c _ _ P.n (P.A k) x _ (HG.out.ext hs_.mv.ext) (HFK.out.ext hs_.mv.ext) (HXR.out.ext hs_.mv.ext) (HQA.out k hlt) HXQ.out (by omega) (by omega) (by omega)).mono ?_;rintro e W9_ ⟨rfl,e9_⟩;exact hK_.out _ e9_
     refine RV (fun A_ hs_ K_ hK_=>?_) ?_;· have q0_:=(hs_.old 0:A_.tmps[0]?.getD undef = .slice (some ⟨ra,o_,none⟩) P.m rcap);go_simp;exact fin_ hK_
     refine RV (fun A_ hs_ K_ hK_=>?_) ?_;· have q6_:=(hs_.old 6:A_.tmps[6]?.getD undef = .int .i64 (k:Int));go_simp;exact fin_ hK_
     refine RV (fun A_ hs_ K_ hK_=>?_) ?_;· have q20_:=hs_.val 7;have q21_:=hs_.val 8;go_simp;exact fin_ hK_
     refine RV (fun A_ hs_ K_ hK_=>?_) ?_;· have q22_:=hs_.val 9;go_simp;exact fin_ hK_
     refine RV (fun A_ hs_ K_ hK_=>?_) ?_;· have q23_:=hs_.val 10;have cr_o____k___2___1:=keepA hs_.mv.ext (HCs.out);go_simp;exact fin_ hK_
     refine RV (fun A_ hs_ K_ hK_=>?_) ?_;· have q24_:=hs_.val 11;go_simp;refine (p3_neg (P.B k) _ (HG.out.ext hs_.mv.ext) ((HQB.out k hlt).mono (by omega))).mono ?_;rintro e W9_ ⟨rfl,e9_⟩;exact hK_.out _ e9_
     refine RV (fun A_ hs_ K_ hK_=>?_) ?_;· have q19_:=hs_.val 6;have q25_:=hs_.val 12;go_simp;refine (p3_plus (smq P.n (fun j=>P.A k j*x j)) (-P.B k) _ (HG.out.ext hs_.mv.ext) (((smq_qb (HQA.out k hlt) HXQ.out P.n (Nat.le_refl _)).mono (dot_sz3 hsz)).mono (by omega)) ((HQB.out k hlt).neg.mono (by omega))).mono ?_;rintro e W9_ ⟨rfl,e9_⟩;exact hK_.out _ e9_
     refine RV (fun A_ hs_ K_ hK_=>?_) ?_;· have q26_:=hs_.val 13;go_simp;refine ((HSG.out▸sg7_c (smq P.n (fun j=>P.A k j*x j)+-P.B k) _ (HG.out.ext hs_.mv.ext) ((((smq_qb (HQA.out k hlt) HXQ.out P.n (Nat.le_refl _)).mono (dot_sz3 hsz)).add (HQB.out k hlt).neg).mono (by omega)))).mono ?_;rintro e W9_ ⟨rfl,e9_⟩;exact hK_.out _ e9_
     refine RV (fun A_ hs_ K_ hK_=>?_) ?_;· have q27_:=hs_.val 14;go_simp;exact fin_ hK_
     exact RnEL.nil
    simp only [fse,Ke.value,puts,Act.put,List.setIfInBounds_toArray,List.set_cons_zero,List.set_cons_succ]
    have HX2:Hid (Ext w w2):=Hi43 hm_.ext
    have HFL_2:=Hi43 (HFL_1.out.mv hm_ (fun i hi h=>h))
    clear hm_ he_
    go_wp2_with fail
    go_roundw
    case rel=>exact ⟨k+1,_,_,_,by go_num,rfl,by omega,Hi43 ⟨HX2.out,(FL.skip HFL_2.out HSK.out)⟩⟩
    case measure=>simp [intOf];omega
   ·have HSG:=Hi43 h1;clear h1
    have hs_:vio P x k=true:=decide_eq_true (by have:=sgn3b HSG.out;grind)
    have HSK:=Hi43 hs_;clear hs_
    go_wp2_with fail
    refine region_e [.val (.slice (some ⟨ra,o_,none⟩) P.m rcap),.val (.int .i64 (k:Int)),.val (.pointer (some ⟨ra,o_+k*2,none⟩)),.val (.pointer (some ⟨ra,o_+k*2,none⟩)),.val (.slice fo P.n fcap),.val (vx),.val (.string (qs (smq P.n (fun j=>P.A k j*x j)))),.val (.slice (some ⟨ra,o_,none⟩) P.m rcap),.val (.int .i64 (k:Int)),.val (.pointer (some ⟨ra,o_+k*2,none⟩)),.val (.pointer (some ⟨ra,o_+k*2+1,none⟩)),.val (.string (qs (P.B k))),.val (.string (qs (-P.B k))),.val (.string (qs (smq P.n (fun j=>P.A k j*x j)+-P.B k))),.val (.int .i64 1),.val (.bool true)] (fun L g W=>True) (S:=fun _=>False) (by kernel_rfl) (by kernel_rfl) (by kernel_rfl) (Mv.refl HX1.out (fun k h=>h.elim)) ?_ ?_ ?_ ?_ (fun gv_ w2 hm_ he_=>?_)
    ·exact fun _=>trivial
    ·exact fun _ _ _ _ h _=>h
    ·exact fun _ _ _ _ _ _ h=>h
    ·skip
     refine RV (fun A_ hs_ K_ hK_=>?_) ?_;· have q0_:=(hs_.old 0:A_.tmps[0]?.getD undef = .slice (some ⟨ra,o_,none⟩) P.m rcap);go_simp;exact fin_ hK_
     refine RV (fun A_ hs_ K_ hK_=>?_) ?_;· have q6_:=(hs_.old 6:A_.tmps[6]?.getD undef = .int .i64 (k:Int));go_simp;exact fin_ hK_
     refine RV (fun A_ hs_ K_ hK_=>?_) ?_;· have q13_:=hs_.val 0;have q14_:=hs_.val 1;go_simp;exact fin_ hK_
     refine RV (fun A_ hs_ K_ hK_=>?_) ?_;· have q15_:=hs_.val 2;go_simp;exact fin_ hK_
     refine RV (fun A_ hs_ K_ hK_=>?_) ?_;· have q16_:=hs_.val 3;have cr_o____k___2:=keepA hs_.mv.ext (HCr.out);go_simp;exact fin_ hK_
     refine RV (fun A_ hs_ K_ hK_=>?_) ?_;· have q1_:=(hs_.old 1:A_.tmps[1]?.getD undef=vx);go_simp;exact fin_ hK_
     refine RV (fun A_ hs_ K_ hK_=>?_) ?_;· have q17_:=hs_.val 4;have q18_:=hs_.val 5;go_simp;refine (dot7_c _ _ P.n (P.A k) x _ (HG.out.ext hs_.mv.ext) (HFK.out.ext hs_.mv.ext) (HXR.out.ext hs_.mv.ext) (HQA.out k hlt) HXQ.out (by omega) (by omega) (by omega)).mono ?_;rintro e W9_ ⟨rfl,e9_⟩;exact hK_.out _ e9_
     refine RV (fun A_ hs_ K_ hK_=>?_) ?_;· have q0_:=(hs_.old 0:A_.tmps[0]?.getD undef = .slice (some ⟨ra,o_,none⟩) P.m rcap);go_simp;exact fin_ hK_
     refine RV (fun A_ hs_ K_ hK_=>?_) ?_;· have q6_:=(hs_.old 6:A_.tmps[6]?.getD undef = .int .i64 (k:Int));go_simp;exact fin_ hK_
     refine RV (fun A_ hs_ K_ hK_=>?_) ?_;· have q20_:=hs_.val 7;have q21_:=hs_.val 8;go_simp;exact fin_ hK_
     refine RV (fun A_ hs_ K_ hK_=>?_) ?_;· have q22_:=hs_.val 9;go_simp;exact fin_ hK_
     refine RV (fun A_ hs_ K_ hK_=>?_) ?_;· have q23_:=hs_.val 10;have cr_o____k___2___1:=keepA hs_.mv.ext (HCs.out);go_simp;exact fin_ hK_
     refine RV (fun A_ hs_ K_ hK_=>?_) ?_;· have q24_:=hs_.val 11;go_simp;refine (p3_neg (P.B k) _ (HG.out.ext hs_.mv.ext) ((HQB.out k hlt).mono (by omega))).mono ?_;rintro e W9_ ⟨rfl,e9_⟩;exact hK_.out _ e9_
     refine RV (fun A_ hs_ K_ hK_=>?_) ?_;· have q19_:=hs_.val 6;have q25_:=hs_.val 12;go_simp;refine (p3_plus (smq P.n (fun j=>P.A k j*x j)) (-P.B k) _ (HG.out.ext hs_.mv.ext) (((smq_qb (HQA.out k hlt) HXQ.out P.n (Nat.le_refl _)).mono (dot_sz3 hsz)).mono (by omega)) ((HQB.out k hlt).neg.mono (by omega))).mono ?_;rintro e W9_ ⟨rfl,e9_⟩;exact hK_.out _ e9_
     refine RV (fun A_ hs_ K_ hK_=>?_) ?_;· have q26_:=hs_.val 13;go_simp;refine ((HSG.out▸sg7_c (smq P.n (fun j=>P.A k j*x j)+-P.B k) _ (HG.out.ext hs_.mv.ext) ((((smq_qb (HQA.out k hlt) HXQ.out P.n (Nat.le_refl _)).mono (dot_sz3 hsz)).add (HQB.out k hlt).neg).mono (by omega)))).mono ?_;rintro e W9_ ⟨rfl,e9_⟩;exact hK_.out _ e9_
     refine RV (fun A_ hs_ K_ hK_=>?_) ?_;· have q27_:=hs_.val 14;go_simp;exact fin_ hK_
     exact RnEL.nil
    simp only [fse,Ke.value,puts,Act.put,List.setIfInBounds_toArray,List.set_cons_zero,List.set_cons_succ]
    have HX2:Hid (Ext w w2):=Hi43 hm_.ext
    have HFL_2:=Hi43 (HFL_1.out.mv hm_ (fun i hi h=>h))
    clear hm_ he_
    go_wp2_with (
     at_builtin
     refine wpList_plain rfl fun K_ hK_=>op_append2 (X:=w) (H:=fun _ => .int .i64 (k:Int)) (ad:=⟨w2.heap.size,0,none⟩) (m:=1) (c:=1) (v:=.slice la ln lc) rfl rfl rfl under_i info_i rfl (HX2.out.alloc _) (HFL_2.out.alloc _) (fun _=>by decide) (fun j hj=>by obtain rfl:j=0:=(by omega);exact blk_add (Blk.new' (w:=_) (cs:=#[.int .i64 (k:Int)]) (t:=3) (by first|rfl|(simp only [World.size_alloc];done)|(simp only [World.size_alloc];omega)|simp)) rfl) (fun _ _=>rfl) (fl_sz (by omega)) (fl_sz2 (by omega)) (fun a3_ n3_ c3_ w3 hA_=>hK_ _ _ ?_)
     have HX3:Hid (Ext w w3):=Hi43 hA_.mv.ext
     have HFL_3:Hid (FL w w3 (vio P x) (k+1) (.slice a3_ n3_ c3_)):=Hi43 (FL.push hA_ HSK.out)
     clear hA_
    )
    go_roundw
    case rel=>exact ⟨k+1,_,_,_,by go_num,rfl,by omega,Hi43 ⟨HX3.out,HFL_3.out⟩⟩
    case measure=>simp [intOf];omega
  ·have hk2:k=P.m:=by omega
   have hge:¬ (k:Int)<((P.m:Nat):Int):=by omega
   go_wp2
   go_ret
   exact ⟨_,rfl,HX1.out,hk2▸HFL_1.out⟩
theorem points_walk (vv:Int) (m wcap:Nat) (wo:Option Addr) (c:Nat->Nat->Int) (o0 o1 o2:Int) (po:Option Addr) (mp pc:Nat) (t:Nat->ByteArray) (w:World) (g:Gd w) (hpl:PlOk w vv m wo c o0 o1 o2) (hpt:Rs w (.slice po mp pc) mp t) (hpr:∀ i,i<mp->∃ a,po=some a/\w.cell? (a.add i)=some (.string (t i))):Calls Tryz.prog 8 #[.agg #[.int .u8 vv,.slice wo m wcap,.int .i8 o0,.int .i8 o1,.int .i8 o2],.slice po mp pc] w (Ret w (.bool true)):=by
 have HG:=Hi43 g
 have HPL:=Hi43 hpl
 have HPT:=Hi43 hpt
 have HRP:=Hi43 hpr
 clear g hpl hpt hpr
 go_enter Tryz.func8,Tryz.ntmps8
 by_cases hm6:m<=6
 ·have HM6:=Hi43 hm6;have HFT:Hid (decide (m<=6)=true):=Hi43 (decide_eq_true hm6)
  by_cases hm5:mp<=5
  ·have h5:¬ (5:Int)<((mp:Nat):Int):=by omega
   have HM5:=Hi43 hm5
   go_wp2_with fail
   refine (known7_c _ (HG.out.ext (((Ext.refl w).alloc _)))).mono ?_;rintro e w1 ⟨rfl,e1⟩
   have HX1:Hid (Ext w w1):=Hi43 (((Ext.refl w).alloc _).trans e1)
   have HB0_1:Hid (Blk w1 (w.heap.size) (#[.int .u8 vv,.slice wo m wcap,.int .i8 o0,.int .i8 o1,.int .i8 o2]) 26):=Hi43 (((Blk.new' (w:=_) (cs:=#[.int .u8 vv,.slice wo m wcap,.int .i8 o0,.int .i8 o1,.int .i8 o2]) (t:=26) (by first|rfl|(simp only [World.size_alloc];done)|(simp only [World.size_alloc];omega)|simp))).ext e1)
   have HGEB0:Hid (w.heap.size<=w.heap.size):=Hi43 (Nat.le_refl _)
   clear e1
   have c0_0:=HB0_1.out.cell 0 rfl
   have c0_1:=HB0_1.out.cell 1 rfl
   have c0_2:=HB0_1.out.cell 2 rfl
   have c0_3:=HB0_1.out.cell 3 rfl
   have c0_4:=HB0_1.out.cell 4 rfl
   go_wp2_with fail
   refine ((HFT.out▸fits7_c vv m wcap wo o0 o1 o2 _)).mono ?_;rintro e w2 ⟨rfl,e2⟩
   have HX2:=Hi43 (HX1.out.trans e2)
   have HB0_2:=Hi43 (HB0_1.out.ext e2)
   clear e2 c0_0 c0_1 c0_2 c0_3 c0_4
   go_wp2_with fail
   go_loopw [5] (fun x0_ wx=>∃ k:Nat,x0_ = .int .i64 k/\k<=mp/\Hid (∀ i,i<k->(t i).size<=20)/\Hid (Ext w wx/\Blk wx (w.heap.size) (#[.int .u8 vv,.slice wo m wcap,.int .i8 o0,.int .i8 o1,.int .i8 o2]) 26)) (fun x0_ _=>mp-(intOf x0_).toNat)
   case atStart=>exact ⟨0,rfl,Nat.zero_le _,Hi43 ((fun i hi=>absurd hi (Nat.not_lt_zero i))),Hi43 ⟨HX2.out,HB0_2.out⟩⟩
   case round =>
    rename World=>w3
    obtain ⟨k,rfl,hkk,HGk,HH⟩:=hrel
    have HX3:=Hi43 HH.out.1
    have HB0_3:=Hi43 HH.out.2
    clear HH
    by_cases hlt:k<mp
    ·have hlt2:(k:Int)<((mp:Nat):Int):=by omega
     obtain ⟨aa,rfl,zc_⟩:=HRP.out k hlt
     have HCa:=Hi43 zc_;clear zc_
     go_upto_region 6 with fail
     by_cases hs:20<(t k).size
     ·have h20:(20:Int)<(((t k).size:Nat):Int):=by omega
      have ca_k:=keepA HX3.out (HCa.out)
      go_wp2
      go_ret
      exact ⟨rfl,HX3.out⟩
     ·have h20:¬ (20:Int)<(((t k).size:Nat):Int):=by omega
      have ca_k:=keepA HX3.out (HCa.out)
      go_wp2_with fail
      go_roundw
      case rel=>exact ⟨k+1,by go_num,by omega,Hi43 (sz_next (by omega) HGk.out),Hi43 ⟨HX3.out,HB0_3.out⟩⟩
      case measure=>simp [intOf];omega
    ·have hk2:k=mp:=by omega
     have hge:¬ (k:Int)<((mp:Nat):Int):=by omega
     have HSZ:Hid (∀ i,i<mp->(t i).size<=20):=Hi43 (fun i hi=>HGk.out i (by omega))
     have c0_0:=HB0_3.out.cell 0 rfl
     have c0_1:=HB0_3.out.cell 1 rfl
     have c0_2:=HB0_3.out.cell 2 rfl
     have c0_3:=HB0_3.out.cell 3 rfl
     have c0_4:=HB0_3.out.cell 4 rfl
     go_wp2_with fail
     refine (make7 (HPL.out.ext HX3.out) (HG.out.ext (HX3.out)) HM6.out).mono ?_;rintro e w4 ⟨P,ro,rcap,co,ccap,va,rfl,e4,pm_,sm_,pe_,s3_⟩
     have HX4:=Hi43 (HX3.out.trans e4)
     have HB0_4:=Hi43 (HB0_3.out.ext e4)
     clear e4 c0_0 c0_1 c0_2 c0_3 c0_4
     have HPM:=Hi43 pm_;have HSM:=Hi43 sm_;have HPE:=Hi43 pe_;have HS3:=Hi43 s3_;clear pm_ sm_ pe_ s3_
     have HM1_4:Hid (Fr w4 w4):=Hi43 (Fr.refl _)
     go_upto_region 9 with fail
     have HGFM1B1:Hid (w4.heap.size<=w4.heap.size):=Hi43 (Nat.le_trans HM1_4.out.out.size (by first|omega|(simp only [];omega)|(simp;omega)))
     refine wp_name (fun W=>Ext w W/\Blk W (w.heap.size) (#[.int .u8 vv,.slice wo m wcap,.int .i8 o0,.int .i8 o1,.int .i8 o2]) 26/\Fr w4 W/\Blk W (w4.heap.size) (#[.int .i64 (P.n:Int),.slice ro P.m rcap,.slice co P.n ccap]) 32) ⟨(HX4.out.alloc _),(HB0_4.out.alloc _),(HM1_4.out.alloc _),(Blk.new' (w:=_) (cs:=#[.int .i64 (P.n:Int),.slice ro P.m rcap,.slice co P.n ccap]) (t:=32) (by first|rfl|(simp only [World.size_alloc];done)|(simp only [World.size_alloc];omega)|simp))⟩ ?_
     rintro w5 ⟨e5,bB0_5,bM1_5,bB1_5⟩
     have HX5:=Hi43 e5;have HB0_5:=Hi43 bB0_5;have HM1_5:=Hi43 bM1_5;have HB1_5:=Hi43 bB1_5
     have HGEB1:Hid (w.heap.size<=w4.heap.size):=Hi43 (HX4.out.size)
     clear e5 bB0_5 bM1_5 bB1_5
     by_cases hle:lerr t mp P.n=0
     ·obtain ⟨em1_,hx_⟩:=lerr_ok hle (TxQ.short HSZ.out)
      have HX_:=Hi43 hx_;clear hx_
      have HRX:Hid (Rq w (.slice po mp pc) P.n (yq t)):=Hi43 (em1_▸HPT.out.congr fun i hi=>by rw [← (HX_.out i hi).1])
      have HQX:Hid (∀ j,j<P.n->QB 20 ((yq t) j)):=Hi43 (fun j hj=>(HX_.out j (by omega)).2)
      have HLE:=Hi43 hle;clear hle em1_
      have c1_0:=HB1_5.out.cell 0 rfl
      have c1_1:=HB1_5.out.cell 1 rfl
      have c1_2:=HB1_5.out.cell 2 rfl
      go_wp2_with fail
      refine (pviol_c P _ _ va 2 _ (HG.out.ext (HX5.out)) (HPM.out.ext HM1_5.out.out) _ (yq t) 20 (HRX.out.ext HX5.out) HQX.out (by decide) (by have:=HSM.out.n;omega) HSM.out.pq (by have:=HSM.out.n;omega) (by have:=HSM.out.m;omega) (by decide) (by decide) HSM.out.qa).mono ?_;rintro e w6 ⟨va1,rfl,e6,fl_⟩
      have HX6:=Hi43 (HX5.out.trans e6)
      have HB0_6:=Hi43 (HB0_5.out.ext e6)
      have HM1_6:=Hi43 (HM1_5.out.ext e6)
      have HB1_6:=Hi43 (HB1_5.out.ext e6)
      clear e6 c1_0 c1_1 c1_2
      have HFA:=Hi43 fl_;clear fl_
      have HMA_6:Hid (Fr w6 w6):=Hi43 (Fr.refl _)
      have c1_0:=HB1_6.out.cell 0 rfl
      have c1_1:=HB1_6.out.cell 1 rfl
      have c1_2:=HB1_6.out.cell 2 rfl
      go_wp2_with fail
      refine (pworth_c P _ _ va 2 _ (HG.out.ext (HX6.out)) (HPM.out.ext HM1_6.out.out) _ (yq t) 20 (HRX.out.ext HX6.out) HQX.out (by decide) (by have:=HSM.out.n;omega) HSM.out.qc HSM.out.pq (by have:=HSM.out.n;omega) (by have:=HSM.out.m;omega) (by decide) (by decide) HSM.out.qa).mono ?_;rintro e w7 ⟨rfl,e7⟩
      have HX7:=Hi43 (HX6.out.trans e7)
      have HB0_7:=Hi43 (HB0_6.out.ext e7)
      have HM1_7:=Hi43 (HM1_6.out.ext e7)
      have HB1_7:=Hi43 (HB1_6.out.ext e7)
      have HMA_7:=Hi43 (HMA_6.out.ext e7)
      clear e7 c1_0 c1_1 c1_2
      have c1_0:=HB1_7.out.cell 0 rfl
      go_wp2_with fail
      refine ((HLE.out▸list7_c (HG.out.ext (HX7.out)) (HPT.out.ext HX7.out) ((by have:=HSZ.out;exact fun i hi=>Nat.le_trans (this i hi) (by decide))) (by omega))).mono ?_;rintro e w8 ⟨rfl,e8⟩
      have HX8:=Hi43 (HX7.out.trans e8)
      have HB0_8:=Hi43 (HB0_7.out.ext e8)
      have HM1_8:=Hi43 (HM1_7.out.ext e8)
      have HB1_8:=Hi43 (HB1_7.out.ext e8)
      have HMA_8:=Hi43 (HMA_7.out.ext e8)
      clear e8 c1_0
      have c1_1:=HB1_8.out.cell 1 rfl
      go_wp2_with fail
      refine (viol7_c P _ _ va 2 _ (HG.out.ext (HX8.out)) (HPM.out.ext HM1_8.out.out) _ (yq t) 20 (HRX.out.ext HX8.out) HQX.out (by have:=HSM.out.n;omega) (by decide) HSM.out.pq (by have:=HSM.out.n;omega) (by have:=HSM.out.m;omega) HSM.out.qa HSM.out.qb).mono ?_;rintro e w9 ⟨va2,rfl,e9,fl_⟩
      have HX9:=Hi43 (HX8.out.trans e9)
      have HB0_9:=Hi43 (HB0_8.out.ext e9)
      have HM1_9:=Hi43 (HM1_8.out.ext e9)
      have HB1_9:=Hi43 (HB1_8.out.ext e9)
      have HMA_9:=Hi43 (HMA_8.out.ext e9)
      clear e9 c1_1
      have HFB:=Hi43 fl_;clear fl_
      have HMB_9:Hid (Fr w9 w9):=Hi43 (Fr.refl _)
      go_wp2_with fail
      refine (same_fl (HFA.out.ext HMA_9.out.out) (HFB.out.ext HMB_9.out.out) (by have:=HSM.out.m;omega)).mono ?_;rintro e w10 ⟨rfl,e10⟩
      have HX10:=Hi43 (HX9.out.trans e10)
      have HB0_10:=Hi43 (HB0_9.out.ext e10)
      have HM1_10:=Hi43 (HM1_9.out.ext e10)
      have HB1_10:=Hi43 (HB1_9.out.ext e10)
      have HMA_10:=Hi43 (HMA_9.out.ext e10)
      have HMB_10:=Hi43 (HMB_9.out.ext e10)
      clear e10
      have c1_2:=HB1_10.out.cell 2 rfl
      go_wp2_with fail
      refine (dot7_c _ _ P.n P.C (yq t) _ (HG.out.ext (HX10.out)) (HPM.out.ext HM1_10.out.out).obj (HRX.out.ext HX10.out) HSM.out.qc HQX.out (by have:=HSM.out.n;omega) (by decide) (by have:=HSM.out.n;omega)).mono ?_;rintro e w11 ⟨rfl,e11⟩
      have HX11:=Hi43 (HX10.out.trans e11)
      have HB0_11:=Hi43 (HB0_10.out.ext e11)
      have HM1_11:=Hi43 (HM1_10.out.ext e11)
      have HMA_11:=Hi43 (HMA_10.out.ext e11)
      have HMB_11:=Hi43 (HMB_10.out.ext e11)
      clear e11 c1_2
      go_wp2
      go_ret
      exact ⟨rfl,HX11.out⟩
     ·have hz2:¬ lerr t mp P.n=0:=hle
      have HLE:=Hi43 hle
      have c1_0:=HB1_5.out.cell 0 rfl
      have c1_1:=HB1_5.out.cell 1 rfl
      have c1_2:=HB1_5.out.cell 2 rfl
      go_wp2_with fail
      refine (pviol_bad P _ _ va 2 _ (HG.out.ext (HX5.out)) (HPM.out.ext HM1_5.out.out) _ mp t (HPT.out.ext HX5.out) ((by have:=HSZ.out;exact fun i hi=>Nat.le_trans (this i hi) (by decide))) (by omega) HLE.out HSM.out.pq (by have:=HSM.out.n;omega) (by have:=HSM.out.m;omega) (by decide) (by decide) HSM.out.qa).mono ?_;rintro e w6 ⟨rfl,e6⟩
      have HX6:=Hi43 (HX5.out.trans e6)
      have HB0_6:=Hi43 (HB0_5.out.ext e6)
      have HM1_6:=Hi43 (HM1_5.out.ext e6)
      have HB1_6:=Hi43 (HB1_5.out.ext e6)
      clear e6 c1_0 c1_1 c1_2
      have c1_0:=HB1_6.out.cell 0 rfl
      have c1_1:=HB1_6.out.cell 1 rfl
      have c1_2:=HB1_6.out.cell 2 rfl
      go_wp2_with fail
      refine (pworth_bad P _ _ va 2 _ (HG.out.ext (HX6.out)) (HPM.out.ext HM1_6.out.out) _ mp t (HPT.out.ext HX6.out) ((by have:=HSZ.out;exact fun i hi=>Nat.le_trans (this i hi) (by decide))) (by omega) HLE.out HSM.out.pq (by have:=HSM.out.n;omega) (by have:=HSM.out.m;omega) (by decide) (by decide) HSM.out.qa).mono ?_;rintro e w7 ⟨rfl,e7⟩
      have HX7:=Hi43 (HX6.out.trans e7)
      have HB0_7:=Hi43 (HB0_6.out.ext e7)
      have HM1_7:=Hi43 (HM1_6.out.ext e7)
      have HB1_7:=Hi43 (HB1_6.out.ext e7)
      clear e7 c1_0 c1_1 c1_2
      have c1_0:=HB1_7.out.cell 0 rfl
      go_wp2_with fail
      refine (list7_c (HG.out.ext (HX7.out)) (HPT.out.ext HX7.out) ((by have:=HSZ.out;exact fun i hi=>Nat.le_trans (this i hi) (by decide))) (by omega)).mono ?_;rintro e w8 ⟨rfl,e8⟩
      have HX8:=Hi43 (HX7.out.trans e8)
      have HB0_8:=Hi43 (HB0_7.out.ext e8)
      have HM1_8:=Hi43 (HM1_7.out.ext e8)
      have HB1_8:=Hi43 (HB1_7.out.ext e8)
      clear e8 c1_0
      go_wp2
      go_ret
      exact ⟨rfl,HX8.out⟩
  ·have h5:(5:Int)<((mp:Nat):Int):=by omega
   go_wp2_with fail
   refine (known7_c _ (HG.out.ext (((Ext.refl w).alloc _)))).mono ?_;rintro e w1 ⟨rfl,e1⟩
   have HX1:Hid (Ext w w1):=Hi43 (((Ext.refl w).alloc _).trans e1)
   have HB0_1:Hid (Blk w1 (w.heap.size) (#[.int .u8 vv,.slice wo m wcap,.int .i8 o0,.int .i8 o1,.int .i8 o2]) 26):=Hi43 (((Blk.new' (w:=_) (cs:=#[.int .u8 vv,.slice wo m wcap,.int .i8 o0,.int .i8 o1,.int .i8 o2]) (t:=26) (by first|rfl|(simp only [World.size_alloc];done)|(simp only [World.size_alloc];omega)|simp))).ext e1)
   have HGEB0:Hid (w.heap.size<=w.heap.size):=Hi43 (Nat.le_refl _)
   clear e1
   have c0_0:=HB0_1.out.cell 0 rfl
   have c0_1:=HB0_1.out.cell 1 rfl
   have c0_2:=HB0_1.out.cell 2 rfl
   have c0_3:=HB0_1.out.cell 3 rfl
   have c0_4:=HB0_1.out.cell 4 rfl
   go_wp2_with fail
   refine ((HFT.out▸fits7_c vv m wcap wo o0 o1 o2 _)).mono ?_;rintro e w2 ⟨rfl,e2⟩
   have HX2:=Hi43 (HX1.out.trans e2)
   have HB0_2:=Hi43 (HB0_1.out.ext e2)
   clear e2 c0_0 c0_1 c0_2 c0_3 c0_4
   go_wp2_with fail
   refine (known7_c _ (HG.out.ext (HX2.out))).mono ?_;rintro e w3 ⟨rfl,e3⟩
   have HX3:=Hi43 (HX2.out.trans e3)
   have HB0_3:=Hi43 (HB0_2.out.ext e3)
   clear e3
   go_wp2
   go_ret
   exact ⟨rfl,HX3.out⟩
 ·have HFT:Hid (decide (m<=6)=false):=Hi43 (decide_eq_false hm6)
  go_wp2_with fail
  refine (known7_c _ (HG.out.ext (((Ext.refl w).alloc _)))).mono ?_;rintro e w1 ⟨rfl,e1⟩
  have HX1:Hid (Ext w w1):=Hi43 (((Ext.refl w).alloc _).trans e1)
  have HB0_1:Hid (Blk w1 (w.heap.size) (#[.int .u8 vv,.slice wo m wcap,.int .i8 o0,.int .i8 o1,.int .i8 o2]) 26):=Hi43 (((Blk.new' (w:=_) (cs:=#[.int .u8 vv,.slice wo m wcap,.int .i8 o0,.int .i8 o1,.int .i8 o2]) (t:=26) (by first|rfl|(simp only [World.size_alloc];done)|(simp only [World.size_alloc];omega)|simp))).ext e1)
  have HGEB0:Hid (w.heap.size<=w.heap.size):=Hi43 (Nat.le_refl _)
  clear e1
  have c0_0:=HB0_1.out.cell 0 rfl
  have c0_1:=HB0_1.out.cell 1 rfl
  have c0_2:=HB0_1.out.cell 2 rfl
  have c0_3:=HB0_1.out.cell 3 rfl
  have c0_4:=HB0_1.out.cell 4 rfl
  go_wp2_with fail
  refine ((HFT.out▸fits7_c vv m wcap wo o0 o1 o2 _)).mono ?_;rintro e w2 ⟨rfl,e2⟩
  have HX2:=Hi43 (HX1.out.trans e2)
  have HB0_2:=Hi43 (HB0_1.out.ext e2)
  clear e2 c0_0 c0_1 c0_2 c0_3 c0_4
  go_wp2_with fail
  refine (known7_c _ (HG.out.ext (HX2.out))).mono ?_;rintro e w3 ⟨rfl,e3⟩
  have HX3:=Hi43 (HX2.out.trans e3)
  have HB0_3:=Hi43 (HB0_2.out.ext e3)
  clear e3
  go_wp2
  go_ret
  exact ⟨rfl,HX3.out⟩
end Go.Proofs.YtcenemaadnlknaaGreatDoor
