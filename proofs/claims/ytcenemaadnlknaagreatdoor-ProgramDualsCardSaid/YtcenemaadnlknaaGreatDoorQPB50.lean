/- Part 50 of the proof: S24, S29, S32, S45. -/
import Derived.Test.YtcenemaadnlknaaGreatDoorQPB42
import Derived.Test.YtcenemaadnlknaaGreatDoorQPB49
set_option maxRecDepth 100000
set_option maxHeartbeats 2000000
set_option linter.unusedSimpArgs false
set_option linter.unusedVariables false
theorem Go.Proofs.YtcenemaadnlknaaGreatDoor.Hi50 {p:Prop} (h:p):Go.RowKit.Hid p:=h
namespace Go.Proofs.YtcenemaadnlknaaGreatDoor
open Go Go.RowKit
theorem merr_ok {t:Nat->ByteArray} {m k r:Nat} (h:merr t m k=0) (hq:TxQ t m r):m=k/\∀ i,i<m->t i=qs (yq t i)/\QB r (yq t i):=by
 rw [merr] at h
 split at h
 ·rename_i h1;exact absurd h h1
 ·rename_i h1;exact lerr_ok (Classical.not_not.1 h1) hq
theorem sum_qb {P:LP} {t:Nat->ByteArray} {m r q:Nat} (hq:TxQ t m r) (h:merr t m P.m=0) (qb:∀ i,i<P.m->QB q (P.B i)) (hsz:P.m*(r+q+1)<=198):QB 199 (P.bnd (yq t)):=by
 obtain ⟨rfl,hx⟩:=merr_ok h hq
 exact (smq_qb (fun i hi=>(hx i hi).2) qb P.m (Nat.le_refl _)).mono (dot_sz (Nat.le_refl _) hsz)
theorem gh_next {P:LP} {y:Nat->Rat} {k:Nat} (hz:P.comb y k+P.C k=0) (h:∀ j,j<k->P.comb y j=-P.C j):∀ j,j<k+1->P.comb y j=-P.C j:=fun j hj=>by
 by_cases e:j=k
 ·rw [e];grind
 ·exact h j (by omega)
theorem comb_qb {P:LP} {t:Nat->ByteArray} {m r q:Nat} (hq:TxQ t m r) (h:merr t m P.m=0) (qa:∀ i,i<P.m->∀ j,j<P.n->QB q (P.A i j)) (hsz:P.m*(r+q+1)<=198):∀ j,j<P.n->QB 199 (P.comb (yq t) j):=fun j hj=>by
 obtain ⟨rfl,hx⟩:=merr_ok h hq
 exact (smq_qb (fun i hi=>(hx i hi).2) (fun i hi=>qa i hi j hj) P.m (Nat.le_refl _)).mono (dot_sz (Nat.le_refl _) hsz)
theorem pbound_c (P:LP) (vr vc:Value) (va:Nat->Value) (q:Nat) (w:World) (g:Gd w) (hP:PM P w vr vc va) (vy:Value) (m:Nat) (t:Nat->ByteArray) (r:Nat) (hT:Rs w vy m t) (hts:∀ i,i<m->(t i).size<=1000000) (hm6:m<=1000000) (hq:TxQ t m r) (hr2:r<=200) (hsz:P.m*(r+q+1)<=198) (qb:∀ i,i<P.m->QB q (P.B i)) (Q:PQ P) (hn:P.n<=60) (hm:P.m<=300) (hq1:1<=q) (hq2:q<=200) (qa:∀ i,i<P.m->∀ j,j<P.n->QB q (P.A i j)):Calls Tryz.prog 25 #[.agg #[.int .i64 (P.n:Int),vr,vc],.agg #[vy]] w (Ret w (.tuple #[.string (bdc P t m).1,.int .i64 (bdc P t m).2])):=by
 have HPM:=Hi50 hP
 have HT:=Hi50 hT
 have HTS:=Hi50 hts
 have HTQ:=Hi50 hq
 have HQB:=Hi50 qb
 have HG:=Hi50 g
 have HQA:=Hi50 qa
 have HQP:=Hi50 Q
 clear hP hT hts hq qb g qa Q
 have HPO:=Hi50 HPM.out.obj;have HPF:=Hi50 HPM.out.fac
 obtain ⟨co,ccap,ec_,_,_,hoo⟩:=HPM.out.obj
 obtain ⟨ro,rcap,er_,_,_,hrr⟩:=HPM.out.rows
 subst er_ ec_
 have HRR:=Hi50 hrr;clear hrr
 have HOO:=Hi50 hoo;clear hoo
 have HT0:=Hi50 HT.out
 obtain ⟨yo,ycap,ey_,_,_,hyy⟩:=HT.out
 subst ey_
 clear hyy
 go_enter Tryz.func25,Tryz.ntmps25
 go_wp2_with fail
 refine (check_go P _ _ va _ (HG.out.ext ((((Ext.refl w).alloc _).alloc _))) (HPM.out.ext (((Ext.refl w).alloc _).alloc _)) HQP.out hn hm).mono ?_;rintro e w1 ⟨rfl,e1⟩
 have HX1:Hid (Ext w w1):=Hi50 ((((Ext.refl w).alloc _).alloc _).trans e1)
 have HB0_1:Hid (Blk w1 (w.heap.size) (#[.int .i64 (P.n:Int),.slice ro P.m rcap,.slice co P.n ccap]) 32):=Hi50 ((((Blk.new' (w:=_) (cs:=#[.int .i64 (P.n:Int),.slice ro P.m rcap,.slice co P.n ccap]) (t:=32) (by first|rfl|(simp only [World.size_alloc];done)|(simp only [World.size_alloc];omega)|simp)).alloc _)).ext e1)
 have HB1_1:Hid (Blk w1 (w.heap.size+1) (#[.slice yo m ycap]) 40):=Hi50 (((Blk.new' (w:=_) (cs:=#[.slice yo m ycap]) (t:=40) (by first|rfl|(simp only [World.size_alloc];done)|(simp only [World.size_alloc];omega)|simp))).ext e1)
 have HGEB0:Hid (w.heap.size<=w.heap.size):=Hi50 (Nat.le_refl _)
 have HGEB1:Hid (w.heap.size<=w.heap.size+1):=Hi50 (by omega)
 clear e1
 have c0_0:=HB0_1.out.cell 0 rfl
 have c0_1:=HB0_1.out.cell 1 rfl
 have c0_2:=HB0_1.out.cell 2 rfl
 have c1_0:=HB1_1.out.cell 0 rfl
 go_wp2_with fail
 refine (sums_c P _ _ va q _ (HG.out.ext (HX1.out)) (HPM.out.ext HX1.out) _ m t r (HT0.out.ext HX1.out) HTS.out hm6 HTQ.out hr2 hsz HQB.out HQP.out hn hm hq1 hq2 HQA.out).mono ?_;rintro e w2 ⟨e2,h_⟩
 have HX2:=Hi50 (HX1.out.trans e2)
 have HB0_2:=Hi50 (HB0_1.out.ext e2)
 have HB1_2:=Hi50 (HB1_1.out.ext e2)
 clear e2 c0_0 c0_1 c0_2 c1_0
 rcases h_ with ⟨rfl,hc⟩|⟨vf,rfl,hm0,hyq,hnq⟩
 ·have HME:=Hi50 hc;have hz2:¬ merr t m P.m=0:=hc;clear hc
  go_wp2
  go_ret2
  exact ⟨by rw [bdc,if_pos HME.out];rfl,HX2.out⟩
 ·have HM0:=Hi50 hm0;have HYQ:=Hi50 hyq;clear hm0 hyq
  obtain ⟨fk,CF,rfl,gf_,bf_,cf_⟩:=hnq
  have HNF:=Hi50 (⟨fk,CF,rfl,gf_,bf_,cf_⟩:Nq _ _ _ P.n (P.comb (yq t)));have HCF:=Hi50 cf_;have HBF0:=Hi50 bf_;clear gf_ bf_ cf_
  have HBN:=Hi50 (sum_qb HTQ.out HM0.out HQB.out hsz);have HSC:=Hi50 (comb_qb HTQ.out HM0.out HQA.out hsz)
  go_wp2_with fail
  go_loopw [29] (fun x0_ wx=>∃ k:Nat,x0_ = .int .i64 k/\k<=P.n/\Hid (∀ j,j<k->P.comb (yq t) j=-P.C j)/\Hid (Ext w wx/\Blk wx (w.heap.size) (#[.int .i64 (P.n:Int),.slice ro P.m rcap,.slice co P.n ccap]) 32/\Blk wx (w.heap.size+1) (#[.slice yo m ycap]) 40/\Blk wx (fk) (CF) 34)) (fun x0_ _=>P.n-(intOf x0_).toNat)
  case atStart=>exact ⟨0,rfl,Nat.zero_le _,Hi50 ((fun j hj=>absurd hj (Nat.not_lt_zero j))),Hi50 ⟨HX2.out,HB0_2.out,HB1_2.out,HBF0.out⟩⟩
  case round =>
   rename World=>w3
   obtain ⟨k,rfl,hkk,HGk,HH⟩:=hrel
   have HX3:=Hi50 HH.out.1
   have HB0_3:=Hi50 HH.out.2.1
   have HB1_3:=Hi50 HH.out.2.2.1
   have HBf_3:=Hi50 HH.out.2.2.2
   clear HH
   by_cases hlt:k<P.n
   ·have hlt2:(k:Int)<((P.n:Nat):Int):=by omega
    obtain ⟨ca,rfl,zc_⟩:=HOO.out k hlt
    have HCc:=Hi50 zc_;clear zc_
    have cf_k:=HBf_3.out.cell (k) (HCF.out k hlt)
    go_upto_region 10 with fail
    clear cf_k
    by_cases hz:P.comb (yq t) k+P.C k=0
    ·have z1:=qs_is0 hz
     have HZ:=Hi50 hz;clear hz
     have c0_2:=HB0_3.out.cell 2 rfl
     have cc_k:=keepA HX3.out (HCc.out)
     go_wp2_with fail
     refine (radd_c (P.comb (yq t) k) (P.C k) _ (HG.out.ext (HX3.out)) (HSC.out k hlt) ((HQP.out.C k hlt).mono (Nat.le_refl _)) (by omega) (by omega)).mono ?_;rintro e w4 ⟨rfl,e4⟩
     have HX4:=Hi50 (HX3.out.trans e4)
     have HB0_4:=Hi50 (HB0_3.out.ext e4)
     have HB1_4:=Hi50 (HB1_3.out.ext e4)
     have HBf_4:=Hi50 (HBf_3.out.ext e4)
     clear e4 c0_2 cc_k
     go_wp2_with fail
     go_roundw
     case rel=>exact ⟨k+1,by go_num,by omega,Hi50 (gh_next HZ.out HGk.out),Hi50 ⟨HX4.out,HB0_4.out,HB1_4.out,HBf_4.out⟩⟩
     case measure=>simp [intOf];omega
    ·have z1:=qs_not0 hz
     have HZ:=Hi50 hz;clear hz
     have c0_2:=HB0_3.out.cell 2 rfl
     have cc_k:=keepA HX3.out (HCc.out)
     go_wp2_with fail
     refine (radd_c (P.comb (yq t) k) (P.C k) _ (HG.out.ext (HX3.out)) (HSC.out k hlt) ((HQP.out.C k hlt).mono (Nat.le_refl _)) (by omega) (by omega)).mono ?_;rintro e w4 ⟨rfl,e4⟩
     have HX4:=Hi50 (HX3.out.trans e4)
     have HB0_4:=Hi50 (HB0_3.out.ext e4)
     have HB1_4:=Hi50 (HB1_3.out.ext e4)
     have HBf_4:=Hi50 (HBf_3.out.ext e4)
     clear e4 c0_2 cc_k
     go_wp2
     go_ret2
     exact ⟨by rw [bdc,if_neg (fun h=>h HM0.out),if_neg (fun h=>HZ.out (by rw [h k hlt];grind))];rfl,HX4.out⟩
   ·have hk2:k=P.n:=by omega
    have hge:¬ (k:Int)<((P.n:Nat):Int):=by omega
    go_wp2_with fail
    refine (rneg_c (P.bnd (yq t)) _ HBN.out (by omega)).mono ?_;rintro e w4 ⟨rfl,e4⟩
    have HX4:=Hi50 (HX3.out.trans e4)
    have HB0_4:=Hi50 (HB0_3.out.ext e4)
    have HB1_4:=Hi50 (HB1_3.out.ext e4)
    have HBf_4:=Hi50 (HBf_3.out.ext e4)
    clear e4
    go_wp2_with fail
    refine (wrong_no (-P.bnd (yq t)) _ (HG.out.ext (HX4.out)) (HBN.out.neg.mono (by omega))).mono ?_;rintro e w5 ⟨rfl,e5⟩
    have HX5:=Hi50 (HX4.out.trans e5)
    have HB0_5:=Hi50 (HB0_4.out.ext e5)
    have HB1_5:=Hi50 (HB1_4.out.ext e5)
    have HBf_5:=Hi50 (HBf_4.out.ext e5)
    clear e5
    go_wp2
    go_ret2
    exact ⟨by rw [bdc,if_neg (fun h=>h HM0.out),if_pos (fun j hj=>HGk.out j (by omega))];rfl,HX5.out⟩
def ms (y:Nat->Rat) (k:Nat):Int:=if any_ (fun i=>decide (y i<0)) k=true then 3 else 0
theorem ms_yes {y:Nat->Rat} {k:Nat} (h:any_ (fun i=>decide (y i<0)) k=true):ms y k=3:=if_pos h
theorem ms_no {y:Nat->Rat} {k:Nat} (h:any_ (fun i=>decide (y i<0)) k=false):ms y k=0:=if_neg (by rw [h];decide)
theorem ms_3 {y:Nat->Rat} {k:Nat} (h:any_ (fun i=>decide (y i<0)) k=false) (h2:y k<0):Value.int .i64 3 = .int .i64 (ms y (k+1)):=by
 rw [ms_yes (any_true.2 ⟨k,by omega,decide_eq_true h2⟩)]
theorem ms_0 {y:Nat->Rat} {k:Nat} (h:any_ (fun i=>decide (y i<0)) k=false) (h2:¬ y k<0):Value.int .i64 (ms y k) = .int .i64 (ms y (k+1)):=by
 rw [ms_no h,ms_no]
 rw [any_,h,decide_eq_false h2];rfl
theorem ms_00 {y:Nat->Rat} {k:Nat} (h:any_ (fun i=>decide (y i<0)) k=false) (h2:¬ y k<0):Value.int .i64 0 = .int .i64 (ms y (k+1)):=by rw [← ms_0 h h2,ms_no h]
theorem ms_up {y:Nat->Rat} {k m:Nat} (h:any_ (fun i=>decide (y i<0)) k=true) (hk:k<=m):ms y m=ms y k:=by
 obtain ⟨i,hi,e⟩:=any_true.1 h
 rw [ms_yes h,ms_yes (any_true.2 ⟨i,by omega,e⟩)]
theorem any_congr {f g:Nat->Bool} {m:Nat} (h:∀ i,i<m->f i=g i):any_ f m=any_ g m:=by
 induction m with
 | zero=>rfl
 | succ m ih=>rw [any_,any_,ih (fun i hi=>h i (by omega)),h m (by omega)]
theorem merr_ok2 {t:Nat->ByteArray} {y:Nat->Rat} {m:Nat} (h:lerr t m m=0) (hv:∀ i,i<m->yq t i=y i):merr t m m=ms y m:=by
 rw [merr,if_neg (fun h'=>h' h),ms,any_congr (f:=fun i=>decide (yq t i<0)) (g:=(fun i=>decide (y i<0))) (fun i hi=>by simp only [hv i hi])]
theorem mult_ok (m:Nat) (y:Nat->Rat) (t:Nat->ByteArray) (ro yo:Option Addr) (rcap ycap:Nat) (w:World) (g:Gd w) (hT:Rs w (.slice yo m ycap) m t) (hts:∀ i,i<m->(t i).size<=1000000) (hle:lerr t m m=0) (hv:∀ i,i<m->yq t i=y i) (hyy:∀ i,i<m->∃ a,yo=some a/\w.cell? (a.add i)=some (.string (qs (y i)))) (hq:∀ i,i<m->QB 200 (y i)) (hm:m<=1000):Calls Tryz.prog 27 #[.slice ro m rcap,.slice yo m ycap] w (Ret w (.int .i64 (merr t m m))):=by
 have HG:=Hi50 g
 have HT:=Hi50 hT
 have HTS:=Hi50 hts
 have HLE:=Hi50 hle
 have HV:=Hi50 hv
 have HY:=Hi50 hyy
 have HQ:=Hi50 hq
 clear g hT hts hle hv hyy hq
 go_enter Tryz.func27,Tryz.ntmps27
 go_wp2_with fail
 refine ((HLE.out▸list7_c (HG.out.ext ((Ext.refl w))) (HT.out.ext (Ext.refl w)) HTS.out (by omega))).mono ?_;rintro e w1 ⟨rfl,e1⟩
 have HX1:Hid (Ext w w1):=Hi50 ((Ext.refl w).trans e1)
 clear e1
 go_wp2_with fail
 go_loopw [6,5] (fun x0_ x1_ wx=>∃ k:Nat,x0_ = .int .i64 k/\x1_ = .int .i64 (ms y k)/\k<=m/\Hid (Ext w wx)) (fun x0_ _ _=>m-(intOf x0_).toNat)
 case atStart=>exact ⟨0,rfl,rfl,Nat.zero_le _,Hi50 HX1.out⟩
 case round =>
  rename World=>w2
  obtain ⟨k,rfl,rfl,hkk,HH⟩:=hrel
  have HX2:=Hi50 HH.out
  clear HH
  by_cases hlt:k<m
  ·have hlt2:(k:Int)<((m:Nat):Int):=by omega
   by_cases hz:any_ (fun i=>decide (y i<0)) k=false
   ·have hm0:ms y k=0:=ms_no hz
    have HZ:=Hi50 hz;clear hz
    obtain ⟨ya,rfl,zy_⟩:=HY.out k hlt
    have HCy:=Hi50 zy_;clear zy_
    go_upto_region 5 with fail
    rcases sgn3 (y k) with ⟨h1,h2⟩|⟨h1,h2⟩|⟨h1,h2⟩
    ·have HSG:=Hi50 h1;clear h1
     have cy_k:=keepA HX2.out (HCy.out)
     go_wp2_with fail
     refine ((HSG.out▸sg7_c (y k) _ (HG.out.ext (HX2.out)) ((HQ.out k hlt).mono (by omega)))).mono ?_;rintro e w3 ⟨rfl,e3⟩
     have HX3:=Hi50 (HX2.out.trans e3)
     clear e3 cy_k
     go_wp2_with fail
     go_roundw
     case rel=>exact ⟨k+1,by go_num,(ms_3 HZ.out h2),by omega,Hi50 HX3.out⟩
     case measure=>simp [intOf];omega
    ·have HSG:=Hi50 h1;clear h1
     have cy_k:=keepA HX2.out (HCy.out)
     go_wp2_with fail
     refine ((HSG.out▸sg7_c (y k) _ (HG.out.ext (HX2.out)) ((HQ.out k hlt).mono (by omega)))).mono ?_;rintro e w3 ⟨rfl,e3⟩
     have HX3:=Hi50 (HX2.out.trans e3)
     clear e3 cy_k
     go_wp2_with fail
     go_roundw
     case rel=>exact ⟨k+1,by go_num,(ms_00 HZ.out h2),by omega,Hi50 HX3.out⟩
     case measure=>simp [intOf];omega
    ·have HSG:=Hi50 h1;clear h1
     have cy_k:=keepA HX2.out (HCy.out)
     go_wp2_with fail
     refine ((HSG.out▸sg7_c (y k) _ (HG.out.ext (HX2.out)) ((HQ.out k hlt).mono (by omega)))).mono ?_;rintro e w3 ⟨rfl,e3⟩
     have HX3:=Hi50 (HX2.out.trans e3)
     clear e3 cy_k
     go_wp2_with fail
     go_roundw
     case rel=>exact ⟨k+1,by go_num,(ms_00 HZ.out h2),by omega,Hi50 HX3.out⟩
     case measure=>simp [intOf];omega
   ·have hz2:any_ (fun i=>decide (y i<0)) k=true:=by simpa using hz
    have hm0:¬ ms y k=0:=by rw [ms_yes hz2];decide
    have hm2:(ms y k == 0)=false:=by simpa using hm0
    have HZ:=Hi50 hz2;clear hz hz2
    go_wp2
    go_ret
    exact ⟨by rw [merr_ok2 HLE.out HV.out,ms_up (m:=m) HZ.out (by omega)];rfl,HX2.out⟩
  ·have hk2:k=m:=by omega
   have hge:¬ (k:Int)<((m:Nat):Int):=by omega
   go_wp2
   go_ret
   exact ⟨by rw [merr_ok2 HLE.out HV.out];rfl,HX2.out⟩
theorem mult_bad (m K:Nat) (t:Nat->ByteArray) (ro yo:Option Addr) (rcap ycap:Nat) (w:World) (g:Gd w) (hT:Rs w (.slice yo m ycap) m t) (hts:∀ i,i<m->(t i).size<=1000000) (E:Int) (hE:lerr t m K=E) (hle:¬ E=0) (hm:m<=1000):Calls Tryz.prog 27 #[.slice ro K rcap,.slice yo m ycap] w (Ret w (.int .i64 E)):=by
 have HG:=Hi50 g
 have HT:=Hi50 hT
 have HTS:=Hi50 hts
 have HE:=Hi50 hE
 clear g hT hts hE
 have hle2:(E == 0)=false:=by simpa using hle
 go_enter Tryz.func27,Tryz.ntmps27
 go_wp2_with fail
 refine ((HE.out▸list7_c (HG.out.ext ((Ext.refl w))) (HT.out.ext (Ext.refl w)) HTS.out (by omega))).mono ?_;rintro e w1 ⟨rfl,e1⟩
 have HX1:Hid (Ext w w1):=Hi50 ((Ext.refl w).trans e1)
 clear e1
 go_wp2_with fail
 go_loopw [6,5] (fun x0_ x1_ wx=>∃ k:Nat,x0_ = .int .i64 k/\x1_ = .int .i64 E/\k<=m/\Hid (Ext w wx)) (fun x0_ _ _=>m-(intOf x0_).toNat)
 case atStart=>exact ⟨0,rfl,rfl,Nat.zero_le _,Hi50 HX1.out⟩
 case round =>
  rename World=>w2
  obtain ⟨k,rfl,rfl,hkk,HH⟩:=hrel
  have HX2:=Hi50 HH.out
  clear HH
  by_cases hlt:k<m
  ·have hlt2:(k:Int)<((m:Nat):Int):=by omega
   go_wp2
   go_ret
   exact ⟨rfl,HX2.out⟩
  ·have hk2:k=m:=by omega
   have hge:¬ (k:Int)<((m:Nat):Int):=by omega
   go_wp2
   go_ret
   exact ⟨rfl,HX2.out⟩
theorem mult7_c {m K r:Nat} {t:Nat->ByteArray} {ro:Option Addr} {rcap:Nat} {vy:Value} {w:World} (g:Gd w) (hT:Rs w vy m t) (hts:∀ i,i<m->(t i).size<=1000000) (hq:TxQ t m r) (hr:r<=200) (hm:m<=1000):Calls Tryz.prog 27 #[.slice ro K rcap,vy] w (Ret w (.int .i64 (merr t m K))):=by
 have h0:=hT
 obtain ⟨yo,ycap,rfl,_,_,hc⟩:=hT
 by_cases hle:lerr t m K=0
 ·obtain ⟨rfl,hx⟩:=lerr_ok hle hq
  exact mult_ok m (yq t) t ro yo rcap ycap w g h0 hts hle (fun _ _=>rfl) (fun i hi=>by rw [← (hx i hi).1];exact hc i hi) (fun i hi=>(hx i hi).2.mono hr) hm
 ·have:=mult_bad m K t ro yo rcap ycap w g h0 hts _ rfl hle hm
  rwa [show lerr t m K=merr t m K by rw [merr,if_pos hle]] at this
theorem made_get {z:Value} {n:Nat}:∀ j,j<n->(madeCells #[z] n)[j]?=some z:=fun j hj=>by
 rw [← Array.getElem?_toList,toList_madeCells_one];simp [hj]
theorem dual_first {P:LP} {y:Nat->Rat} {k n:Nat} {C:Array Value} {g:Nat->ByteArray} (h:∀ j,j<n->C[j]?=some (.string (g j))):∀ j,j<n->(C.setIfInBounds k (.string ⟨#[48]⟩))[j]?=some (.string (if j=k then qs (sfa P y 0 k) else g j)) :=
 cell_upd h (fun _=>by rw [if_pos rfl,sfa_zero,qs_zero]) (fun j _ hne=>by rw [if_neg hne])
theorem dual_set {P:LP} {y:Nat->Rat} {i k n:Nat} {C:Array Value} {g:Nat->ByteArray} (h:∀ j,j<n->C[j]?=some (.string (if j=k then qs (sfa P y i k) else g j))):∀ j,j<n->(C.setIfInBounds k (.string (qs (sfa P y i k+y i*P.A i k))))[j]?=some (.string (if j=k then qs (sfa P y (i+1) k) else g j)) :=
 cell_upd h (fun _=>by rw [if_pos rfl];rfl) (fun j _ hne=>by rw [if_neg hne,if_neg hne])
theorem dual_next {P:LP} {y:Nat->Rat} {i k:Nat} {g:Nat->ByteArray} (h:∀ j,j<k->g j=qs (P.comb y j)) (hi:i=P.m):∀ j,j<k+1->(if j=k then qs (sfa P y i k) else g j)=qs (P.comb y j):=fun j hj=>by
 split
 ·rename_i e;rw [e,hi,sfa_end]
 ·exact h j (by omega)
def DualR (P:LP) (y:Nat->Rat) (w:World) (e:Ending) (w':World):Prop:=∃ vf,e = .returned (.tuple #[vf,.string (qs (P.bnd y))])/\Ext w w'/\Nq w w' vf P.n (P.comb y)
theorem dual7_c (P:LP) (vr vc:Value) (va:Nat->Value) (q:Nat) (w:World) (g:Gd w) (hP:PM P w vr vc va) (vy:Value) (y:Nat->Rat) (r:Nat) (hy:Rq w vy P.m y) (hr:∀ i,i<P.m->QB r (y i)) (hsz:P.m*(r+q+1)<=190) (hqr:q+r<=199) (Q:PQ P) (hn:P.n<=60) (hm:P.m<=300) (qa:∀ i,i<P.m->∀ j,j<P.n->QB q (P.A i j)) (qb:∀ i,i<P.m->QB q (P.B i)):Calls Tryz.prog 28 #[.int .i64 (P.n:Int),vr,vy] w (DualR P y w):=by
 have HPM:=Hi50 hP
 have HYR:=Hi50 hy
 have HYQ:=Hi50 hr
 have HQB:=Hi50 qb
 have HG:=Hi50 g
 have HQA:=Hi50 qa
 have HQP:=Hi50 Q
 clear hP hy hr qb g qa Q
 have hmk:=run_make_row' (P:=Tryz.prog) 30 34 (.string ⟨#[]⟩) 16 Tryz.underlying30 info_s rfl .i64 .i64 P.n (by omega) (by omega)
 have h0:¬ (P.n:Int)<0:=by omega
 have HSB:Hid (∀ k,k<=P.m->QB 199 (smq k (fun i=>y i*P.B i))):=Hi50 (fun k hk=>(smq_qb HYQ.out HQB.out k hk).mono (dot_sz hk (by omega)))
 have HSA:Hid (∀ k,k<=P.m->∀ j,j<P.n->QB 199 (sfa P y k j)):=Hi50 (fun k hk j hj=>(smq_qb HYQ.out (fun i hi=>HQA.out i hi j hj) k hk).mono (dot_sz hk (by omega)))
 have HPO:=Hi50 HPM.out.obj;have HPF:=Hi50 HPM.out.fac
 obtain ⟨co,ccap,ec_,_⟩:=HPM.out.obj
 obtain ⟨ro,rcap,er_,_,_,hrr⟩:=HPM.out.rows
 subst er_ ec_
 have HRR:=Hi50 hrr;clear hrr
 have HY0:=Hi50 HYR.out
 obtain ⟨yo,ycap,ey_,_,_,hyy⟩:=HYR.out
 subst ey_
 have HYY:=Hi50 hyy;clear hyy
 go_enter Tryz.func28,Tryz.ntmps28
 go_upto_region 2 with fail
 refine wp_name (fun W=>Ext w W/\∃ C0,Blk W w.heap.size C0 34/\∀ j,j<P.n->C0[j]?=some (.string ⟨#[]⟩)) ⟨(Ext.refl w).alloc _,_,Blk.new _ _ _,made_get⟩ ?_
 clear hmk
 rintro w1 ⟨e1,C0,b2,hz⟩
 have HX1:=Hi50 e1;have HBz_1:=Hi50 b2;have HC0:=Hi50 hz;clear e1 b2 hz
 go_wp2_with fail
 go_loopw [9] (fun x0_ wx=>∃ k:Nat,x0_ = .int .i64 k/\k<=P.n/\Hid (Ext w wx/\(∃ CK,∃ gk:Nat->ByteArray,Blk wx w.heap.size CK 34/\(∀ j,j<P.n->CK[j]?=some (.string (gk j)))/\∀ j,j<k->gk j=qs (P.comb y j)))) (fun x0_ _=>P.n-(intOf x0_).toNat)
 case atStart=>exact ⟨0,rfl,Nat.zero_le _,Hi50 ⟨HX1.out,⟨_,fun _=>⟨#[]⟩,HBz_1.out,HC0.out,fun j hj=>absurd hj (Nat.not_lt_zero j)⟩⟩⟩
 case round =>
  rename World=>w2
  obtain ⟨k,rfl,hkk,HH⟩:=hrel
  have HX2:=Hi50 HH.out.1
  obtain ⟨CK,gk,a1_,a2_,a3_⟩:=HH.out.2
  have HBz_2:=Hi50 a1_;have HCK:=Hi50 a2_;have HGK:=Hi50 a3_;clear a1_ a2_ a3_
  clear HH
  by_cases hlt:k<P.n
  ·have hlt2:(k:Int)<((P.n:Nat):Int):=by omega
   have hltk:k<P.n:=hlt
   have cz_k:=HBz_2.out.cell (k) (HCK.out k hltk)
   have fz_k:=HBz_2.out.free k
   go_wp2_with fail
   refine wp_name (fun W=>Ext w W/\Blk W (w.heap.size) ((CK).setIfInBounds k (.string ⟨#[48]⟩)) 34) ⟨(HX2.out.setCell (Nat.le_refl _) _),(HBz_2.out.set k (.string ⟨#[48]⟩))⟩ ?_
   rintro w3 ⟨e3,bBz_3⟩
   have HX3:=Hi50 e3;have HBz_3:=Hi50 bBz_3
   clear e3 bBz_3 cz_k fz_k
   go_wp2_with fail
   go_loopw [10] (fun x0_ wx=>∃ i:Nat,x0_ = .int .i64 i/\i<=P.m/\Hid (Ext w wx/\(∃ CJ,Blk wx w.heap.size CJ 34/\∀ j,j<P.n->CJ[j]?=some (.string (if j=k then qs (sfa P y i k) else gk j))))) (fun x0_ _=>P.m-(intOf x0_).toNat)
   case atStart=>exact ⟨0,rfl,Nat.zero_le _,Hi50 ⟨HX3.out,⟨_,HBz_3.out,dual_first HCK.out⟩⟩⟩
   case round =>
    rename World=>w4
    obtain ⟨i,rfl,hki,HH⟩:=hrel
    have HX4:=Hi50 HH.out.1
    obtain ⟨CJ,a1_,a2_⟩:=HH.out.2
    have HBz_4:=Hi50 a1_;have HCJ:=Hi50 a2_;clear a1_ a2_
    clear HH
    by_cases hlt:i<P.m
    ·have hlt2:(i:Int)<((P.m:Nat):Int):=by omega
     obtain ⟨ra,o_,rfl,zr_,zs_⟩:=HRR.out i hlt
     obtain ⟨fo,fcap,ef_,_,_,hff_⟩:=HPF.out i hlt
     rw [ef_] at zr_
     obtain ⟨fa,rfl,zf_⟩:=hff_ k hltk
     obtain ⟨ya,rfl,zy_⟩:=HYY.out i hlt
     have zk_:=HCJ.out k hltk;rw [if_pos rfl] at zk_
     have HCr:=Hi50 zr_;have HCf:=Hi50 zf_;have HCy:=Hi50 zy_;have HCk:=Hi50 zk_;clear zr_ zs_ ef_ hff_ zf_ zy_ zk_
     go_wp2_with fail
     refine region_e [.val (.slice (some ⟨w.heap.size,0,none⟩) P.n P.n),.val (.int .i64 (k:Int)),.val (.slice (some ⟨w.heap.size,0,none⟩) P.n P.n),.val (.int .i64 (k:Int)),.val (.pointer (some ⟨w.heap.size,k,none⟩)),.val (.string (qs (sfa P y i k))),.val (.slice (some ya) P.m ycap),.val (.int .i64 (i:Int)),.val (.pointer (some (ya.add i))),.val (.string (qs (y i))),.val (.slice (some ⟨ra,o_,none⟩) P.m rcap),.val (.int .i64 (i:Int)),.val (.pointer (some ⟨ra,o_+i*2,none⟩)),.val (.pointer (some ⟨ra,o_+i*2,none⟩)),.val (.slice (some fa) P.n fcap),.val (.int .i64 (k:Int)),.val (.pointer (some (fa.add k))),.val (.string (qs (P.A i k))),.val (.string (qs (y i*P.A i k))),.val (.string (qs (sfa P y i k+y i*P.A i k))),.val (.pointer (some ⟨w.heap.size,k,none⟩)),.eff] (fun L g W=>(if L 21=true then Blk W (w.heap.size) ((CJ).setIfInBounds k (.string (qs (sfa P y i k+y i*P.A i k)))) 34 else Blk W (w.heap.size) (CJ) 34)) (S:=fun k=>k=w.heap.size) (by kernel_rfl) (by kernel_rfl) (by kernel_rfl) (Mv.refl HX4.out (fun k h=>(fun e=>Nat.le_trans (show w.heap.size<=w.heap.size from (Nat.le_refl _)) (Nat.le_of_eq e.symm)) h)) ?_ ?_ ?_ ?_ (fun gv_ w5 hm_ he_=>?_)
     ·exact fun gz_=>(by rw [if_neg (by decide)];exact HBz_4.out.drew)
     ·exact fun L g W W1 h e=>ite_ext (h) (fun h=>h.ext e) (fun h=>h.ext e)
     ·intro i v L g W hi h
      have n21_:i≠21:=fun e=>by subst e;exact absurd (show false=true from hi) (by decide)
      simp only [up_ne n21_,ug_ne n21_];exact h
     ·skip
      refine RV (fun A_ hs_ K_ hK_=>?_) ?_;· have q8_:=(hs_.old 8:A_.tmps[8]?.getD undef = .slice (some ⟨w.heap.size,0,none⟩) P.n P.n);go_simp;exact fin_ hK_
      refine RV (fun A_ hs_ K_ hK_=>?_) ?_;· have q9_:=(hs_.old 9:A_.tmps[9]?.getD undef = .int .i64 (k:Int));go_simp;exact fin_ hK_
      refine RV (fun A_ hs_ K_ hK_=>?_) ?_;· have q8_:=(hs_.old 8:A_.tmps[8]?.getD undef = .slice (some ⟨w.heap.size,0,none⟩) P.n P.n);go_simp;exact fin_ hK_
      refine RV (fun A_ hs_ K_ hK_=>?_) ?_;· have q9_:=(hs_.old 9:A_.tmps[9]?.getD undef = .int .i64 (k:Int));go_simp;exact fin_ hK_
      refine RV (fun A_ hs_ K_ hK_=>?_) ?_;· have q31_:=hs_.val 2;have q32_:=hs_.val 3;go_simp;exact fin_ hK_
      refine RV (fun A_ hs_ K_ hK_=>?_) ?_;· have q33_:=hs_.val 4;have n21_:=hs_.no 21 (by decide) (by kernel_rfl);have e21_:=hs_.e;rw [if_neg (by rw [n21_];decide)] at e21_;have cz_k:=e21_.cell (k) HCk.out;clear e21_ n21_;go_simp;exact fin_ hK_
      refine RV (fun A_ hs_ K_ hK_=>?_) ?_;· have q2_:=(hs_.old 2:A_.tmps[2]?.getD undef = .slice (some ya) P.m ycap);go_simp;exact fin_ hK_
      refine RV (fun A_ hs_ K_ hK_=>?_) ?_;· have q10_:=(hs_.old 10:A_.tmps[10]?.getD undef = .int .i64 (i:Int));go_simp;exact fin_ hK_
      refine RV (fun A_ hs_ K_ hK_=>?_) ?_;· have q35_:=hs_.val 6;have q36_:=hs_.val 7;go_simp;exact fin_ hK_
      refine RV (fun A_ hs_ K_ hK_=>?_) ?_;· have q37_:=hs_.val 8;have cy_i:=keepA hs_.mv.ext (HCy.out);go_simp;exact fin_ hK_
      refine RV (fun A_ hs_ K_ hK_=>?_) ?_;· have q1_:=(hs_.old 1:A_.tmps[1]?.getD undef = .slice (some ⟨ra,o_,none⟩) P.m rcap);go_simp;exact fin_ hK_
      refine RV (fun A_ hs_ K_ hK_=>?_) ?_;· have q10_:=(hs_.old 10:A_.tmps[10]?.getD undef = .int .i64 (i:Int));go_simp;exact fin_ hK_
      refine RV (fun A_ hs_ K_ hK_=>?_) ?_;· have q39_:=hs_.val 10;have q40_:=hs_.val 11;go_simp;exact fin_ hK_
      refine RV (fun A_ hs_ K_ hK_=>?_) ?_;· have q41_:=hs_.val 12;go_simp;exact fin_ hK_
      refine RV (fun A_ hs_ K_ hK_=>?_) ?_;· have q42_:=hs_.val 13;have cr_o____i___2:=keepA hs_.mv.ext (HCr.out);go_simp;exact fin_ hK_
      refine RV (fun A_ hs_ K_ hK_=>?_) ?_;· have q9_:=(hs_.old 9:A_.tmps[9]?.getD undef = .int .i64 (k:Int));go_simp;exact fin_ hK_
      refine RV (fun A_ hs_ K_ hK_=>?_) ?_;· have q43_:=hs_.val 14;have q44_:=hs_.val 15;go_simp;exact fin_ hK_
      refine RV (fun A_ hs_ K_ hK_=>?_) ?_;· have q45_:=hs_.val 16;have cf_k:=keepA hs_.mv.ext (HCf.out);go_simp;exact fin_ hK_
      refine RV (fun A_ hs_ K_ hK_=>?_) ?_;· have q38_:=hs_.val 9;have q46_:=hs_.val 17;go_simp;refine (p3_times (y i) (P.A i k) _ (HG.out.ext hs_.mv.ext) ((HYQ.out i hlt).mono (by omega)) ((HQA.out i hlt k hltk).mono (by omega))).mono ?_;rintro e W9_ ⟨rfl,e9_⟩;exact hK_.out _ e9_
      refine RV (fun A_ hs_ K_ hK_=>?_) ?_;· have q34_:=hs_.val 5;have q47_:=hs_.val 18;go_simp;refine (p3_plus (sfa P y i k) (y i*P.A i k) _ (HG.out.ext hs_.mv.ext) ((HSA.out i (by omega) k hltk).mono (by omega)) (((HYQ.out i hlt).mul (HQA.out i hlt k hltk)).mono (by omega))).mono ?_;rintro e W9_ ⟨rfl,e9_⟩;exact hK_.out _ e9_
      refine RV (fun A_ hs_ K_ hK_=>?_) ?_;· have q29_:=hs_.val 0;have q30_:=hs_.val 1;go_simp;exact fin_ hK_
      refine RnEL.cons (fun L_ g_ A_ W_ hs_=>?_) ?_
      ·have q49_:=hs_.val 20;have q48_:=hs_.val 19;refine RnE.eff fun K_ hK_=>?_;have n_:=hs_.not;have e_:=hs_.e;rw [if_neg (by rw [n_];decide)] at e_;have c_0:=e_.cell (k) HCk.out;have f_0:=e_.free k;have HE_:=Hi50 e_;have HM_:=Hi50 hs_.mv;have HEE_:=Hi50 hs_.e;clear e_ n_;go_simp;exact hK_.out undef _ (HM_.out.setCell (Or.inl (rfl)) _) (by rw [up_at,if_pos rfl];exact (HE_.out.set k _))
      exact RnEL.nil
     simp only [fse,Ke.value,puts,Act.put,List.setIfInBounds_toArray,List.set_cons_zero,List.set_cons_succ]
     have HX5:Hid (Ext w w5):=Hi50 hm_.ext
     have HBz_5:Hid (Blk w5 (w.heap.size) ((CJ).setIfInBounds k (.string (qs (sfa P y i k+y i*P.A i k)))) 34):=Hi50 (by have h_:=he_;rw [if_pos rfl] at h_;exact h_)
     clear hm_ he_
     go_wp2_with fail
     go_roundw
     case rel=>exact ⟨i+1,by go_num,by omega,Hi50 ⟨HX5.out,⟨_,HBz_5.out,dual_set HCJ.out⟩⟩⟩
     case measure=>simp [intOf];omega
    ·have hk2:i=P.m:=by omega
     have hge:¬ (i:Int)<((P.m:Nat):Int):=by omega
     go_wp2_with fail
     go_roundw
     case rel=>exact ⟨k+1,by go_num,by omega,Hi50 ⟨HX4.out,⟨_,fun j=>if j=k then qs (sfa P y i k) else gk j,HBz_4.out,HCJ.out,dual_next HGK.out hk2⟩⟩⟩
     case measure=>simp [intOf];omega
  ·have hk2:k=P.n:=by omega
   have hge:¬ (k:Int)<((P.n:Nat):Int):=by omega
   go_wp2_with fail
   go_loopw [12,11] (fun x0_ x1_ wx=>∃ i:Nat,x0_ = .int .i64 i/\x1_ = .string (qs (smq i (fun i=>y i*P.B i)))/\i<=P.m/\Hid (Ext w wx/\Blk wx (w.heap.size) (CK) 34)) (fun x0_ _ _=>P.m-(intOf x0_).toNat)
   case atStart=>exact ⟨0,rfl,by simp only [smq];rw [qs_zero],Nat.zero_le _,Hi50 ⟨HX2.out,HBz_2.out⟩⟩
   case round =>
    rename World=>w3
    obtain ⟨i,rfl,rfl,hki,HH⟩:=hrel
    have HX3:=Hi50 HH.out.1
    have HBz_3:=Hi50 HH.out.2
    clear HH
    by_cases hlt:i<P.m
    ·have hlt2:(i:Int)<((P.m:Nat):Int):=by omega
     obtain ⟨ra,o_,rfl,zr_,zs_⟩:=HRR.out i hlt
     obtain ⟨ya,rfl,zy_⟩:=HYY.out i hlt
     have HCs:=Hi50 zs_;have HCy:=Hi50 zy_;clear zr_ zs_ zy_
     go_wp2_with fail
     refine region_e [.val (.string (qs (smq i (fun i=>y i*P.B i)))),.val (.slice (some ya) P.m ycap),.val (.int .i64 (i:Int)),.val (.pointer (some (ya.add i))),.val (.string (qs (y i))),.val (.slice (some ⟨ra,o_,none⟩) P.m rcap),.val (.int .i64 (i:Int)),.val (.pointer (some ⟨ra,o_+i*2,none⟩)),.val (.pointer (some ⟨ra,o_+i*2+1,none⟩)),.val (.string (qs (P.B i))),.val (.string (qs (y i*P.B i))),.val (.string (qs (smq i (fun i=>y i*P.B i)+y i*P.B i))),.val (.string (qs (smq i (fun i=>y i*P.B i)+y i*P.B i)))] (fun L g W=>True) (S:=fun _=>False) (by kernel_rfl) (by kernel_rfl) (by kernel_rfl) (Mv.refl HX3.out (fun k h=>h.elim)) ?_ ?_ ?_ ?_ (fun gv_ w4 hm_ he_=>?_)
     ·exact fun _=>trivial
     ·exact fun _ _ _ _ h _=>h
     ·exact fun _ _ _ _ _ _ h=>h
     ·skip
      refine RV (fun A_ hs_ K_ hK_=>?_) ?_;· have q11_:=(hs_.old 11:A_.tmps[11]?.getD undef = .string (qs (smq i (fun i=>y i*P.B i))));go_simp;exact fin_ hK_
      refine RV (fun A_ hs_ K_ hK_=>?_) ?_;· have q2_:=(hs_.old 2:A_.tmps[2]?.getD undef = .slice (some ya) P.m ycap);go_simp;exact fin_ hK_
      refine RV (fun A_ hs_ K_ hK_=>?_) ?_;· have q12_:=(hs_.old 12:A_.tmps[12]?.getD undef = .int .i64 (i:Int));go_simp;exact fin_ hK_
      refine RV (fun A_ hs_ K_ hK_=>?_) ?_;· have q57_:=hs_.val 1;have q58_:=hs_.val 2;go_simp;exact fin_ hK_
      refine RV (fun A_ hs_ K_ hK_=>?_) ?_;· have q59_:=hs_.val 3;have cy_i:=keepA hs_.mv.ext (HCy.out);go_simp;exact fin_ hK_
      refine RV (fun A_ hs_ K_ hK_=>?_) ?_;· have q1_:=(hs_.old 1:A_.tmps[1]?.getD undef = .slice (some ⟨ra,o_,none⟩) P.m rcap);go_simp;exact fin_ hK_
      refine RV (fun A_ hs_ K_ hK_=>?_) ?_;· have q12_:=(hs_.old 12:A_.tmps[12]?.getD undef = .int .i64 (i:Int));go_simp;exact fin_ hK_
      refine RV (fun A_ hs_ K_ hK_=>?_) ?_;· have q61_:=hs_.val 5;have q62_:=hs_.val 6;go_simp;exact fin_ hK_
      refine RV (fun A_ hs_ K_ hK_=>?_) ?_;· have q63_:=hs_.val 7;go_simp;exact fin_ hK_
      refine RV (fun A_ hs_ K_ hK_=>?_) ?_;· have q64_:=hs_.val 8;have cr_o____i___2___1:=keepA hs_.mv.ext (HCs.out);go_simp;exact fin_ hK_
      refine RV (fun A_ hs_ K_ hK_=>?_) ?_;· have q60_:=hs_.val 4;have q65_:=hs_.val 9;go_simp;refine (p3_times (y i) (P.B i) _ (HG.out.ext hs_.mv.ext) ((HYQ.out i hlt).mono (by omega)) ((HQB.out i hlt).mono (by omega))).mono ?_;rintro e W9_ ⟨rfl,e9_⟩;exact hK_.out _ e9_
      refine RV (fun A_ hs_ K_ hK_=>?_) ?_;· have q56_:=hs_.val 0;have q66_:=hs_.val 10;go_simp;refine (p3_plus (smq i (fun i=>y i*P.B i)) (y i*P.B i) _ (HG.out.ext hs_.mv.ext) ((HSB.out i (by omega)).mono (by omega)) (((HYQ.out i hlt).mul (HQB.out i hlt)).mono (by omega))).mono ?_;rintro e W9_ ⟨rfl,e9_⟩;exact hK_.out _ e9_
      refine RV (fun A_ hs_ K_ hK_=>?_) ?_;· have q67_:=hs_.val 11;go_simp;exact fin_ hK_
      exact RnEL.nil
     simp only [fse,Ke.value,puts,Act.put,List.setIfInBounds_toArray,List.set_cons_zero,List.set_cons_succ]
     have HX4:Hid (Ext w w4):=Hi50 hm_.ext
     have HBz_4:=Hi50 (hm_.blk HBz_3.out (fun h=>h))
     clear hm_ he_
     go_wp2_with fail
     go_roundw
     case rel=>exact ⟨i+1,by go_num,by rw [smq],by omega,Hi50 ⟨HX4.out,HBz_4.out⟩⟩
     case measure=>simp [intOf];omega
    ·have hk2:i=P.m:=by omega
     have hge:¬ (i:Int)<((P.m:Nat):Int):=by omega
     go_wp2
     go_ret2
     exact ⟨_,by rw [LP.bnd,← hk2];rfl,HX3.out,_,_,rfl,Nat.le_refl _,HBz_3.out,fun j hj=>by rw [HCK.out j hj,HGK.out j (by omega)]⟩
theorem gh_eq {f g:Nat->Rat} {k:Nat} (hz:f k=g k) (h:∀ j,j<k->f j=g j):∀ j,j<k+1->f j=g j:=fun j hj=>by
 by_cases e:j=k
 ·rw [e];exact hz
 ·exact h j (by omega)
noncomputable def alB (f g:Nat->Rat) (k:Nat):Bool:=open Classical in decide (∀ i,i<k->f i=g i)
section
variable {f g:Nat->Rat} {k:Nat}
theorem alB_iff:alB f g k=true ↔ ∀ i,i<k->f i=g i:=decide_eq_true_iff
theorem alB_zero:alB f g 0=true:=alB_iff.2 fun i hi=>absurd hi (Nat.not_lt_zero i)
theorem alB_f (h:alB f g k=false):alB f g (k+1)=false:=Bool.eq_false_iff.2 fun h2=>Bool.eq_false_iff.1 h (alB_iff.2 fun i hi=>alB_iff.1 h2 i (by omega))
theorem alB_t (h:alB f g k=true) (e:f k=g k):alB f g (k+1)=true:=alB_iff.2 (gh_eq e (alB_iff.1 h))
theorem alB_e (e:¬ f k=g k):alB f g (k+1)=false:=Bool.eq_false_iff.2 fun h=>e (alB_iff.1 h k (by omega))
end
theorem duals_walk (vv:Int) (m wcap:Nat) (wo:Option Addr) (c:Nat->Nat->Int) (o0 o1 o2:Int) (lo:Option Addr) (ml lcap:Nat) (t:Nat->ByteArray) (w:World) (g:Gd w) (hpl:PlOk w vv m wo c o0 o1 o2) (hpt:Rs w (.slice lo ml lcap) ml t) (hpr:∀ i,i<ml->∃ a,lo=some a/\w.cell? (a.add i)=some (.string (t i))):Calls Tryz.prog 7 #[.agg #[.int .u8 vv,.slice wo m wcap,.int .i8 o0,.int .i8 o1,.int .i8 o2],.slice lo ml lcap] w (Ret w (.bool true)):=by
 have HG:=Hi50 g
 have HPL:=Hi50 hpl
 have HPT:=Hi50 hpt
 have HRP:=Hi50 hpr
 clear g hpl hpt hpr
 go_enter Tryz.func7,Tryz.ntmps7
 by_cases hm6:m<=6
 ·have HM6:=Hi50 hm6;have HFT:Hid (decide (m<=6)=true):=Hi50 (decide_eq_true hm6)
  by_cases hm5:ml<=7
  ·have h5:¬ (7:Int)<((ml:Nat):Int):=by omega
   have HM5:=Hi50 hm5
   go_wp2_with fail
   refine (known7_c _ (HG.out.ext (((Ext.refl w).alloc _)))).mono ?_;rintro e w1 ⟨rfl,e1⟩
   have HX1:Hid (Ext w w1):=Hi50 (((Ext.refl w).alloc _).trans e1)
   have HB0_1:Hid (Blk w1 (w.heap.size) (#[.int .u8 vv,.slice wo m wcap,.int .i8 o0,.int .i8 o1,.int .i8 o2]) 26):=Hi50 (((Blk.new' (w:=_) (cs:=#[.int .u8 vv,.slice wo m wcap,.int .i8 o0,.int .i8 o1,.int .i8 o2]) (t:=26) (by first|rfl|(simp only [World.size_alloc];done)|(simp only [World.size_alloc];omega)|simp))).ext e1)
   have HGEB0:Hid (w.heap.size<=w.heap.size):=Hi50 (Nat.le_refl _)
   clear e1
   have c0_0:=HB0_1.out.cell 0 rfl
   have c0_1:=HB0_1.out.cell 1 rfl
   have c0_2:=HB0_1.out.cell 2 rfl
   have c0_3:=HB0_1.out.cell 3 rfl
   have c0_4:=HB0_1.out.cell 4 rfl
   go_wp2_with fail
   refine ((HFT.out▸fits7_c vv m wcap wo o0 o1 o2 _)).mono ?_;rintro e w2 ⟨rfl,e2⟩
   have HX2:=Hi50 (HX1.out.trans e2)
   have HB0_2:=Hi50 (HB0_1.out.ext e2)
   clear e2 c0_0 c0_1 c0_2 c0_3 c0_4
   go_wp2_with fail
   have HFL_2:Hid (FL w w2 (ntz t) 0 (.slice none 0 0)):=Hi50 (FL.nil _ _ _)
   go_wp2_with fail
   go_loopw [6,5] (fun x0_ x1_ wx=>∃ k:Nat,∃ la:Option Addr,∃ ln:Nat,∃ lc:Nat,x0_ = .int .i64 k/\x1_ = .slice la ln lc/\k<=ml/\Hid (∀ i,i<k->(t i).size<=20)/\Hid (Ext w wx/\Blk wx (w.heap.size) (#[.int .u8 vv,.slice wo m wcap,.int .i8 o0,.int .i8 o1,.int .i8 o2]) 26/\FL w wx (ntz t) k (.slice la ln lc))) (fun x0_ _ _=>ml-(intOf x0_).toNat)
   case atStart=>exact ⟨0,none,0,0,rfl,rfl,Nat.zero_le _,Hi50 ((fun i hi=>absurd hi (Nat.not_lt_zero i))),Hi50 ⟨HX2.out,HB0_2.out,HFL_2.out⟩⟩
   case round =>
    rename World=>w3
    obtain ⟨k,la,ln,lc,rfl,rfl,hkk,HGk,HH⟩:=hrel
    have HX3:=Hi50 HH.out.1
    have HB0_3:=Hi50 HH.out.2.1
    have HFL_3:=Hi50 HH.out.2.2
    clear HH
    by_cases hlt:k<ml
    ·have hlt2:(k:Int)<((ml:Nat):Int):=by omega
     obtain ⟨aa,rfl,zc_⟩:=HRP.out k hlt
     have HCa:=Hi50 zc_;clear zc_
     go_upto_region 7 with fail
     by_cases hs:20<(t k).size
     ·have h20:(20:Int)<(((t k).size:Nat):Int):=by omega
      have ca_k:=keepA HX3.out (HCa.out)
      go_wp2
      go_ret
      exact ⟨rfl,HX3.out⟩
     ·have h20:¬ (20:Int)<(((t k).size:Nat):Int):=by omega
      have ca_k:=keepA HX3.out (HCa.out)
      go_upto_region 9 with fail
      clear ca_k
      by_cases hz:t k=⟨#[48]⟩
      ·have hs_:ntz t k=false:=decide_eq_false (fun h=>h hz)
       have HSK:=Hi50 hs_;clear hs_
       have ca_k:=keepA HX3.out (HCa.out)
       go_wp2_with fail
       go_roundw
       case rel=>exact ⟨k+1,_,_,_,by go_num,rfl,by omega,Hi50 (sz_next (by omega) HGk.out),Hi50 ⟨HX3.out,HB0_3.out,(FL.skip HFL_3.out HSK.out)⟩⟩
       case measure=>simp [intOf];omega
      ·have hz2:((t k).toList == [48])=false:=tl_ne hz
       have hs_:ntz t k=true:=decide_eq_true hz
       have HSK:=Hi50 hs_;clear hs_
       have ca_k:=keepA HX3.out (HCa.out)
       go_wp2_with (
        at_builtin
        refine wpList_plain rfl fun K_ hK_=>op_append2 (X:=w) (H:=fun _ => .int .i64 (k:Int)) (ad:=⟨w3.heap.size,0,none⟩) (m:=1) (c:=1) (v:=.slice la ln lc) rfl rfl rfl under_i info_i rfl (HX3.out.alloc _) (HFL_3.out.alloc _) (fun _=>by decide) (fun j hj=>by obtain rfl:j=0:=(by omega);exact blk_add (Blk.new' (w:=_) (cs:=#[.int .i64 (k:Int)]) (t:=3) (by first|rfl|(simp only [World.size_alloc];done)|(simp only [World.size_alloc];omega)|simp)) rfl) (fun _ _=>rfl) (fl_sz (by omega)) (fl_sz2 (by omega)) (fun a4_ n4_ c4_ w4 hA_=>hK_ _ _ ?_)
        have HX4:Hid (Ext w w4):=Hi50 hA_.mv.ext
        have HB0_4:Hid (Blk w4 (w.heap.size) (#[.int .u8 vv,.slice wo m wcap,.int .i8 o0,.int .i8 o1,.int .i8 o2]) 26):=Hi50 (hA_.mv.blk (HB0_3.out.alloc _) (Osl.not_vob HFL_3.out HB0_3.out (by decide)))
        have HFL_4:Hid (FL w w4 (ntz t) (k+1) (.slice a4_ n4_ c4_)):=Hi50 (FL.push hA_ HSK.out)
        clear hA_ ca_k
       )
       go_roundw
       case rel=>exact ⟨k+1,_,_,_,by go_num,rfl,by omega,Hi50 (sz_next (by omega) HGk.out),Hi50 ⟨HX4.out,HB0_4.out,HFL_4.out⟩⟩
       case measure=>simp [intOf];omega
    ·have hk2:k=ml:=by omega
     have hge:¬ (k:Int)<((ml:Nat):Int):=by omega
     have HSZ:Hid (∀ i,i<ml->(t i).size<=20):=Hi50 (fun i hi=>HGk.out i (by omega))
     have HKM:=Hi50 hk2
     have c0_0:=HB0_3.out.cell 0 rfl
     have c0_1:=HB0_3.out.cell 1 rfl
     have c0_2:=HB0_3.out.cell 2 rfl
     have c0_3:=HB0_3.out.cell 3 rfl
     have c0_4:=HB0_3.out.cell 4 rfl
     go_wp2_with fail
     refine (make7 (HPL.out.ext HX3.out) (HG.out.ext (HX3.out)) HM6.out).mono ?_;rintro e w4 ⟨P,ro,rcap,co,ccap,va,rfl,e4,pm_,sm_,pe_,s3_⟩
     have HX4:=Hi50 (HX3.out.trans e4)
     have HB0_4:=Hi50 (HB0_3.out.ext e4)
     have HFL_4:=Hi50 (HFL_3.out.ext e4)
     clear e4 c0_0 c0_1 c0_2 c0_3 c0_4
     have HPM:=Hi50 pm_;have HSM:=Hi50 sm_;have HPE:=Hi50 pe_;have HS3:=Hi50 s3_;clear pm_ sm_ pe_ s3_
     have HM1_4:Hid (Fr w4 w4):=Hi50 (Fr.refl _)
     go_upto_region 13 with fail
     have HGFM1B1:Hid (w4.heap.size<=w4.heap.size):=Hi50 (Nat.le_trans HM1_4.out.out.size (by first|omega|(simp only [];omega)|(simp;omega)))
     have HGFM1B2:Hid (w4.heap.size<=w4.heap.size+1):=Hi50 (Nat.le_trans HM1_4.out.out.size (by first|omega|(simp only [];omega)|(simp;omega)))
     refine wp_name (fun W=>Ext w W/\Blk W (w.heap.size) (#[.int .u8 vv,.slice wo m wcap,.int .i8 o0,.int .i8 o1,.int .i8 o2]) 26/\FL w W (ntz t) k (.slice la ln lc)/\Fr w4 W/\Blk W (w4.heap.size) (#[.int .i64 (P.n:Int),.slice ro P.m rcap,.slice co P.n ccap]) 32/\Blk W (w4.heap.size+1) (#[.slice lo ml lcap]) 40) ⟨((HX4.out.alloc _).alloc _),((HB0_4.out.alloc _).alloc _),((HFL_4.out.alloc _).alloc _),((HM1_4.out.alloc _).alloc _),((Blk.new' (w:=_) (cs:=#[.int .i64 (P.n:Int),.slice ro P.m rcap,.slice co P.n ccap]) (t:=32) (by first|rfl|(simp only [World.size_alloc];done)|(simp only [World.size_alloc];omega)|simp)).alloc _),(Blk.new' (w:=_) (cs:=#[.slice lo ml lcap]) (t:=40) (by first|rfl|(simp only [World.size_alloc];done)|(simp only [World.size_alloc];omega)|simp))⟩ ?_
     rintro w5 ⟨e5,bB0_5,bFL_5,bM1_5,bB1_5,bB2_5⟩
     have HX5:=Hi50 e5;have HB0_5:=Hi50 bB0_5;have HFL_5:=Hi50 bFL_5;have HM1_5:=Hi50 bM1_5;have HB1_5:=Hi50 bB1_5;have HB2_5:=Hi50 bB2_5
     have HGEB1:Hid (w.heap.size<=w4.heap.size):=Hi50 (HX4.out.size)
     have HGEB2:Hid (w.heap.size<=w4.heap.size+1):=Hi50 (Nat.le_succ_of_le HX4.out.size)
     clear e5 bB0_5 bFL_5 bM1_5 bB1_5 bB2_5
     have c1_0:=HB1_5.out.cell 0 rfl
     have c1_1:=HB1_5.out.cell 1 rfl
     have c1_2:=HB1_5.out.cell 2 rfl
     have c2_0:=HB2_5.out.cell 0 rfl
     go_wp2_with fail
     refine (prefutes_c P _ _ va 2 _ (HG.out.ext (HX5.out)) (HPM.out.ext HM1_5.out.out) _ ml t 20 (HPT.out.ext HX5.out) (by have:=HSZ.out;exact fun i hi=>Nat.le_trans (this i hi) (by decide)) (by omega) (TxQ.short HSZ.out) (by decide) (by have:=HSM.out.m;omega) HSM.out.qb HSM.out.pq (by have:=HSM.out.n;omega) (by have:=HSM.out.m;omega) (by decide) (by decide) HSM.out.qa).mono ?_;rintro e w6 ⟨rfl,e6⟩
     have HX6:=Hi50 (HX5.out.trans e6)
     have HB0_6:=Hi50 (HB0_5.out.ext e6)
     have HFL_6:=Hi50 (HFL_5.out.ext e6)
     have HM1_6:=Hi50 (HM1_5.out.ext e6)
     have HB1_6:=Hi50 (HB1_5.out.ext e6)
     have HB2_6:=Hi50 (HB2_5.out.ext e6)
     clear e6 c1_0 c1_1 c1_2 c2_0
     obtain ⟨re,hre_⟩:∃ x,rfc P t ml=x:=⟨_,rfl⟩
     rw [hre_]
     have HRE:=Hi50 hre_;clear hre_
     have c1_0:=HB1_6.out.cell 0 rfl
     have c1_1:=HB1_6.out.cell 1 rfl
     have c1_2:=HB1_6.out.cell 2 rfl
     have c2_0:=HB2_6.out.cell 0 rfl
     go_wp2_with fail
     refine (pbound_c P _ _ va 2 _ (HG.out.ext (HX6.out)) (HPM.out.ext HM1_6.out.out) _ ml t 20 (HPT.out.ext HX6.out) (by have:=HSZ.out;exact fun i hi=>Nat.le_trans (this i hi) (by decide)) (by omega) (TxQ.short HSZ.out) (by decide) (by have:=HSM.out.m;omega) HSM.out.qb HSM.out.pq (by have:=HSM.out.n;omega) (by have:=HSM.out.m;omega) (by decide) (by decide) HSM.out.qa).mono ?_;rintro e w7 ⟨rfl,e7⟩
     have HX7:=Hi50 (HX6.out.trans e7)
     have HB0_7:=Hi50 (HB0_6.out.ext e7)
     have HFL_7:=Hi50 (HFL_6.out.ext e7)
     have HM1_7:=Hi50 (HM1_6.out.ext e7)
     have HB1_7:=Hi50 (HB1_6.out.ext e7)
     have HB2_7:=Hi50 (HB2_6.out.ext e7)
     clear e7 c1_0 c1_1 c1_2 c2_0
     obtain ⟨bt,hbt_⟩:∃ x,(bdc P t ml).1=x:=⟨_,rfl⟩
     obtain ⟨be,hbe_⟩:∃ x,(bdc P t ml).2=x:=⟨_,rfl⟩
     rw [hbt_,hbe_]
     have HBT:=Hi50 hbt_;have HBE:=Hi50 hbe_;clear hbt_ hbe_
     have c2_0:=HB2_7.out.cell 0 rfl
     go_wp2_with fail
     refine (psupport_c (HPT.out.ext HX7.out) (by omega)).mono ?_;rintro e w8 ⟨va1,rfl,e8,fl_⟩
     have HX8:=Hi50 (HX7.out.trans e8)
     have HB0_8:=Hi50 (HB0_7.out.ext e8)
     have HFL_8:=Hi50 (HFL_7.out.ext e8)
     have HM1_8:=Hi50 (HM1_7.out.ext e8)
     have HB1_8:=Hi50 (HB1_7.out.ext e8)
     have HB2_8:=Hi50 (HB2_7.out.ext e8)
     clear e8 c2_0
     have HFA:=Hi50 fl_;clear fl_
     have HMA_8:Hid (Fr w8 w8):=Hi50 (Fr.refl _)
     go_wp2_with fail
     refine (same_fl (HFA.out.ext HMA_8.out.out) (HKM.out▸HFL_8.out) (by omega)).mono ?_;rintro e w9 ⟨rfl,e9⟩
     have HX9:=Hi50 (HX8.out.trans e9)
     have HB0_9:=Hi50 (HB0_8.out.ext e9)
     have HFL_9:=Hi50 (HFL_8.out.ext e9)
     have HM1_9:=Hi50 (HM1_8.out.ext e9)
     have HB1_9:=Hi50 (HB1_8.out.ext e9)
     have HB2_9:=Hi50 (HB2_8.out.ext e9)
     have HMA_9:=Hi50 (HMA_8.out.ext e9)
     clear e9
     go_upto_region 17 with fail
     by_cases hme:merr t ml P.m≠0
     ·have hz2:¬ merr t ml P.m=0:=hme
      obtain rfl:re=merr t ml P.m:=by rw [← HRE.out,rfc,if_pos hme]
      obtain rfl:be=merr t ml P.m:=by rw [← HBE.out,bdc,if_pos hme]
      obtain rfl:bt=⟨#[]⟩:=by rw [← HBT.out,bdc,if_pos hme]
      have c1_1:=HB1_9.out.cell 1 rfl
      go_wp2_with fail
      refine (mult7_c (r:=20) (HG.out.ext (HX9.out)) (HPT.out.ext HX9.out) (by have:=HSZ.out;exact fun i hi=>Nat.le_trans (this i hi) (by decide)) (TxQ.short HSZ.out) (by decide) (by omega)).mono ?_;rintro e w10 ⟨rfl,e10⟩
      have HX10:=Hi50 (HX9.out.trans e10)
      have HB0_10:=Hi50 (HB0_9.out.ext e10)
      have HFL_10:=Hi50 (HFL_9.out.ext e10)
      have HM1_10:=Hi50 (HM1_9.out.ext e10)
      have HB1_10:=Hi50 (HB1_9.out.ext e10)
      have HB2_10:=Hi50 (HB2_9.out.ext e10)
      have HMA_10:=Hi50 (HMA_9.out.ext e10)
      clear e10 c1_1
      go_wp2
      go_ret
      exact ⟨rfl,HX10.out⟩
     ·have hme:=Classical.not_not.1 hme
      obtain ⟨em2_,hx_⟩:=merr_ok hme (TxQ.short HSZ.out)
      have HXY:=Hi50 hx_;clear hx_
      have HYR:Hid (Rq w (.slice lo ml lcap) P.m (yq t)):=Hi50 (em2_▸HPT.out.congr fun i hi=>by rw [← (HXY.out i hi).1])
      have HYQ:Hid (∀ j,j<P.m->QB 20 ((yq t) j)):=Hi50 (fun j hj=>(HXY.out j (by omega)).2)
      have HM0:Hid (merr t ml P.m=0):=Hi50 hme;have HBN:=Hi50 (sum_qb (r:=20) (TxQ.short HSZ.out) hme HSM.out.qb (by have:=HSM.out.m;omega));have HSC:=Hi50 (comb_qb (r:=20) (TxQ.short HSZ.out) hme HSM.out.qa (by have:=HSM.out.m;omega));clear hme em2_
      have c1_1:=HB1_9.out.cell 1 rfl
      go_wp2_with fail
      refine ((HM0.out▸mult7_c (r:=20) (HG.out.ext (HX9.out)) (HPT.out.ext HX9.out) (by have:=HSZ.out;exact fun i hi=>Nat.le_trans (this i hi) (by decide)) (TxQ.short HSZ.out) (by decide) (by omega))).mono ?_;rintro e w10 ⟨rfl,e10⟩
      have HX10:=Hi50 (HX9.out.trans e10)
      have HB0_10:=Hi50 (HB0_9.out.ext e10)
      have HFL_10:=Hi50 (HFL_9.out.ext e10)
      have HM1_10:=Hi50 (HM1_9.out.ext e10)
      have HB1_10:=Hi50 (HB1_9.out.ext e10)
      have HB2_10:=Hi50 (HB2_9.out.ext e10)
      have HMA_10:=Hi50 (HMA_9.out.ext e10)
      clear e10 c1_1
      have c1_0:=HB1_10.out.cell 0 rfl
      have c1_1:=HB1_10.out.cell 1 rfl
      go_wp2_with fail
      refine (dual7_c P _ _ va 2 _ (HG.out.ext (HX10.out)) (HPM.out.ext HM1_10.out.out) _ (yq t) 20 (HYR.out.ext HX10.out) HYQ.out (by have:=HSM.out.m;omega) (by decide) HSM.out.pq (by have:=HSM.out.n;omega) (by have:=HSM.out.m;omega) HSM.out.qa HSM.out.qb).mono ?_;rintro e w11 ⟨vf,rfl,e11,hnq⟩
      have HX11:=Hi50 (HX10.out.trans e11)
      have HB0_11:=Hi50 (HB0_10.out.ext e11)
      have HFL_11:=Hi50 (HFL_10.out.ext e11)
      have HM1_11:=Hi50 (HM1_10.out.ext e11)
      have HB1_11:=Hi50 (HB1_10.out.ext e11)
      have HB2_11:=Hi50 (HB2_10.out.ext e11)
      have HMA_11:=Hi50 (HMA_10.out.ext e11)
      clear e11 c1_0 c1_1
      obtain ⟨fk,CF,rfl,gf_,bf_,cf_⟩:=hnq
      have HCF:=Hi50 cf_;have HBF0:=Hi50 bf_;clear gf_ bf_ cf_
      have hn3:=HSM.out.n
      have hoo:=HPM.out.obj
      obtain ⟨_,_,eo_,_,_,hoo⟩:=hoo
      cases eo_
      have HOO:=Hi50 hoo;clear hoo
      go_wp2_with fail
      go_loopw [17,15,16] (fun x0_ x1_ x2_ wx=>∃ j:Nat,x0_ = .int .i64 j/\x1_ = .bool (alB (P.comb (yq t)) (fun _=>0) j)/\x2_ = .bool (alB (P.comb (yq t)) (fun i=>-P.C i) j)/\j<=P.n/\Hid (Ext w wx/\Blk wx (w.heap.size) (#[.int .u8 vv,.slice wo m wcap,.int .i8 o0,.int .i8 o1,.int .i8 o2]) 26/\FL w wx (ntz t) k (.slice la ln lc)/\Fr w4 wx/\Blk wx (w4.heap.size) (#[.int .i64 (P.n:Int),.slice ro P.m rcap,.slice co P.n ccap]) 32/\Blk wx (w4.heap.size+1) (#[.slice lo ml lcap]) 40/\Fr w8 wx/\Blk wx (fk) (CF) 34)) (fun x0_ _ _ _=>P.n-(intOf x0_).toNat)
      case atStart=>exact ⟨0,rfl,by rw [alB_zero],by rw [alB_zero],Nat.zero_le _,Hi50 ⟨HX11.out,HB0_11.out,HFL_11.out,HM1_11.out,HB1_11.out,HB2_11.out,HMA_11.out,HBF0.out⟩⟩
      case round =>
       rename World=>w12
       obtain ⟨j,rfl,rfl,rfl,hkj,HH⟩:=hrel
       have HX12:=Hi50 HH.out.1
       have HB0_12:=Hi50 HH.out.2.1
       have HFL_12:=Hi50 HH.out.2.2.1
       have HM1_12:=Hi50 HH.out.2.2.2.1
       have HB1_12:=Hi50 HH.out.2.2.2.2.1
       have HB2_12:=Hi50 HH.out.2.2.2.2.2.1
       have HMA_12:=Hi50 HH.out.2.2.2.2.2.2.1
       have HBf_12:=Hi50 HH.out.2.2.2.2.2.2.2
       clear HH
       by_cases hlt:j<P.n
       ·have hlt2:(j:Int)<((P.n:Nat):Int):=by omega
        obtain ⟨ca,rfl,zc_⟩:=HOO.out j hlt
        have HCc:=Hi50 zc_;clear zc_
        have c1_0:=HB1_12.out.cell 0 rfl
        go_upto_region 25 with fail
        clear c1_0
        rcases Bool.eq_false_or_eq_true (alB (P.comb (yq t)) (fun _=>0) j) with hb|hb
        ·rw [hb]
         have HB15:=Hi50 hb
         by_cases hz:P.comb (yq t) j=0
         ·have HE15:=Hi50 hz
          have z15:=qs_is0 hz
          clear hz
          have cf_j:=HBf_12.out.cell (j) (HCF.out j hlt)
          go_upto_region 26 with fail
          clear cf_j
          rcases Bool.eq_false_or_eq_true (alB (P.comb (yq t)) (fun i=>-P.C i) j) with hb|hb
          ·rw [hb]
           have HB16:=Hi50 hb
           by_cases hz:P.comb (yq t) j=-P.C j
           ·have HE16:=Hi50 hz
            have z16:=qs_eqL hz
            clear hz
            go_wp2_with fail
            refine region_e [.val (.bool true),.val (.bool true),.val (.slice (some ⟨fk,0,none⟩) P.n P.n),.val (.int .i64 (j:Int)),.val (.pointer (some ⟨fk,j,none⟩)),.val (.string (qs (P.comb (yq t) j))),.val (.pointer (some ⟨w4.heap.size,2,none⟩)),.val (.slice (some ca) P.n ccap),.val (.int .i64 (j:Int)),.val (.pointer (some (ca.add j))),.val (.string (qs (P.C j))),.val (.string (qs (-P.C j))),.val (.bool true),.val (.bool true),.val (.bool true)] (fun L g W=>True) (S:=fun _=>False) (by kernel_rfl) (by kernel_rfl) (by kernel_rfl) (Mv.refl (Ext.refl _) (fun k h=>h.elim)) ?_ ?_ ?_ ?_ (fun gv_ w13 hm_ he_=>?_)
            ·exact fun _=>trivial
            ·exact fun _ _ _ _ h _=>h
            ·exact fun _ _ _ _ _ _ h=>h
            ·skip
             refine RV (fun A_ hs_ K_ hK_=>?_) ?_;· have q16_:=(hs_.old 16:A_.tmps[16]?.getD undef = .bool true);go_simp;exact fin_ hK_
             refine RV (fun A_ hs_ K_ hK_=>?_) ?_;· have q114_:=hs_.val 0;go_simp;exact fin_ hK_
             refine RV (fun A_ hs_ K_ hK_=>?_) ?_;· have q13_:=(hs_.old 13:A_.tmps[13]?.getD undef = .slice (some ⟨fk,0,none⟩) P.n P.n);go_simp;exact fin_ hK_
             refine RV (fun A_ hs_ K_ hK_=>?_) ?_;· have q17_:=(hs_.old 17:A_.tmps[17]?.getD undef = .int .i64 (j:Int));go_simp;exact fin_ hK_
             refine RV (fun A_ hs_ K_ hK_=>?_) ?_;· have q116_:=hs_.val 2;have q117_:=hs_.val 3;go_simp;exact fin_ hK_
             refine RV (fun A_ hs_ K_ hK_=>?_) ?_;· have q118_:=hs_.val 4;have cf_j:=(hs_.mv.blk HBf_12.out (fun h=>h)).cell (j) (HCF.out j hlt);go_simp;exact fin_ hK_
             refine RV (fun A_ hs_ K_ hK_=>?_) ?_;· have q7_:=(hs_.old 7:A_.tmps[7]?.getD undef = .pointer (some ⟨w4.heap.size,0,none⟩));go_simp;exact fin_ hK_
             refine RV (fun A_ hs_ K_ hK_=>?_) ?_;· have q120_:=hs_.val 6;have c1_2:=(hs_.mv.blk HB1_12.out (fun h=>h)).cell 2 rfl;go_simp;exact fin_ hK_
             refine RV (fun A_ hs_ K_ hK_=>?_) ?_;· have q17_:=(hs_.old 17:A_.tmps[17]?.getD undef = .int .i64 (j:Int));go_simp;exact fin_ hK_
             refine RV (fun A_ hs_ K_ hK_=>?_) ?_;· have q121_:=hs_.val 7;have q122_:=hs_.val 8;go_simp;exact fin_ hK_
             refine RV (fun A_ hs_ K_ hK_=>?_) ?_;· have q123_:=hs_.val 9;have cc_j:=keepA (HM1_12.out.ext hs_.mv.ext).out (HCc.out);go_simp;exact fin_ hK_
             refine RV (fun A_ hs_ K_ hK_=>?_) ?_;· have q124_:=hs_.val 10;go_simp;refine (p3_neg (P.C j) _ (HG.out.ext (HX12.out.trans hs_.mv.ext)) ((HSM.out.qc j hlt).mono (by omega))).mono ?_;rintro e W9_ ⟨rfl,e9_⟩;exact hK_.out _ e9_
             refine RV (fun A_ hs_ K_ hK_=>?_) ?_;· have q119_:=hs_.val 5;have q125_:=hs_.val 11;go_simp;exact fin_ hK_
             refine RV (fun A_ hs_ K_ hK_=>?_) ?_;· have q115_:=hs_.val 1;have q126_:=hs_.val 12;go_simp;exact fin_ hK_
             refine RV (fun A_ hs_ K_ hK_=>?_) ?_;· have q127_:=hs_.val 13;go_simp;exact fin_ hK_
             exact RnEL.nil
            simp only [fse,Ke.value,puts,Act.put,List.setIfInBounds_toArray,List.set_cons_zero,List.set_cons_succ]
            have HX13:=Hi50 (HX12.out.trans hm_.ext)
            have HB0_13:=Hi50 (hm_.blk HB0_12.out (fun h=>h))
            have HFL_13:=Hi50 (HFL_12.out.mv hm_ (fun i hi h=>h))
            have HM1_13:=Hi50 (HM1_12.out.ext hm_.ext)
            have HB1_13:=Hi50 (hm_.blk HB1_12.out (fun h=>h))
            have HB2_13:=Hi50 (hm_.blk HB2_12.out (fun h=>h))
            have HMA_13:=Hi50 (HMA_12.out.ext hm_.ext)
            have HBf_13:=Hi50 (hm_.blk HBf_12.out (fun h=>h))
            clear hm_ he_
            go_wp2_with fail
            go_roundw
            case rel=>exact ⟨j+1,by go_num,by rw [alB_t HB15.out HE15.out],by rw [alB_t HB16.out HE16.out],by omega,Hi50 ⟨HX13.out,HB0_13.out,HFL_13.out,HM1_13.out,HB1_13.out,HB2_13.out,HMA_13.out,HBf_13.out⟩⟩
            case measure=>simp [intOf];omega
           ·have HE16:=Hi50 hz
            have z16:=qs_neL hz
            clear hz
            go_wp2_with fail
            refine region_e [.val (.bool true),.val (.bool true),.val (.slice (some ⟨fk,0,none⟩) P.n P.n),.val (.int .i64 (j:Int)),.val (.pointer (some ⟨fk,j,none⟩)),.val (.string (qs (P.comb (yq t) j))),.val (.pointer (some ⟨w4.heap.size,2,none⟩)),.val (.slice (some ca) P.n ccap),.val (.int .i64 (j:Int)),.val (.pointer (some (ca.add j))),.val (.string (qs (P.C j))),.val (.string (qs (-P.C j))),.val (.bool false),.val (.bool false),.val (.bool false)] (fun L g W=>True) (S:=fun _=>False) (by kernel_rfl) (by kernel_rfl) (by kernel_rfl) (Mv.refl (Ext.refl _) (fun k h=>h.elim)) ?_ ?_ ?_ ?_ (fun gv_ w13 hm_ he_=>?_)
            ·exact fun _=>trivial
            ·exact fun _ _ _ _ h _=>h
            ·exact fun _ _ _ _ _ _ h=>h
            ·skip
             refine RV (fun A_ hs_ K_ hK_=>?_) ?_;· have q16_:=(hs_.old 16:A_.tmps[16]?.getD undef = .bool true);go_simp;exact fin_ hK_
             refine RV (fun A_ hs_ K_ hK_=>?_) ?_;· have q114_:=hs_.val 0;go_simp;exact fin_ hK_
             refine RV (fun A_ hs_ K_ hK_=>?_) ?_;· have q13_:=(hs_.old 13:A_.tmps[13]?.getD undef = .slice (some ⟨fk,0,none⟩) P.n P.n);go_simp;exact fin_ hK_
             refine RV (fun A_ hs_ K_ hK_=>?_) ?_;· have q17_:=(hs_.old 17:A_.tmps[17]?.getD undef = .int .i64 (j:Int));go_simp;exact fin_ hK_
             refine RV (fun A_ hs_ K_ hK_=>?_) ?_;· have q116_:=hs_.val 2;have q117_:=hs_.val 3;go_simp;exact fin_ hK_
             refine RV (fun A_ hs_ K_ hK_=>?_) ?_;· have q118_:=hs_.val 4;have cf_j:=(hs_.mv.blk HBf_12.out (fun h=>h)).cell (j) (HCF.out j hlt);go_simp;exact fin_ hK_
             refine RV (fun A_ hs_ K_ hK_=>?_) ?_;· have q7_:=(hs_.old 7:A_.tmps[7]?.getD undef = .pointer (some ⟨w4.heap.size,0,none⟩));go_simp;exact fin_ hK_
             refine RV (fun A_ hs_ K_ hK_=>?_) ?_;· have q120_:=hs_.val 6;have c1_2:=(hs_.mv.blk HB1_12.out (fun h=>h)).cell 2 rfl;go_simp;exact fin_ hK_
             refine RV (fun A_ hs_ K_ hK_=>?_) ?_;· have q17_:=(hs_.old 17:A_.tmps[17]?.getD undef = .int .i64 (j:Int));go_simp;exact fin_ hK_
             refine RV (fun A_ hs_ K_ hK_=>?_) ?_;· have q121_:=hs_.val 7;have q122_:=hs_.val 8;go_simp;exact fin_ hK_
             refine RV (fun A_ hs_ K_ hK_=>?_) ?_;· have q123_:=hs_.val 9;have cc_j:=keepA (HM1_12.out.ext hs_.mv.ext).out (HCc.out);go_simp;exact fin_ hK_
             refine RV (fun A_ hs_ K_ hK_=>?_) ?_;· have q124_:=hs_.val 10;go_simp;refine (p3_neg (P.C j) _ (HG.out.ext (HX12.out.trans hs_.mv.ext)) ((HSM.out.qc j hlt).mono (by omega))).mono ?_;rintro e W9_ ⟨rfl,e9_⟩;exact hK_.out _ e9_
             refine RV (fun A_ hs_ K_ hK_=>?_) ?_;· have q119_:=hs_.val 5;have q125_:=hs_.val 11;go_simp;exact fin_ hK_
             refine RV (fun A_ hs_ K_ hK_=>?_) ?_;· have q115_:=hs_.val 1;have q126_:=hs_.val 12;go_simp;exact fin_ hK_
             refine RV (fun A_ hs_ K_ hK_=>?_) ?_;· have q127_:=hs_.val 13;go_simp;exact fin_ hK_
             exact RnEL.nil
            simp only [fse,Ke.value,puts,Act.put,List.setIfInBounds_toArray,List.set_cons_zero,List.set_cons_succ]
            have HX13:=Hi50 (HX12.out.trans hm_.ext)
            have HB0_13:=Hi50 (hm_.blk HB0_12.out (fun h=>h))
            have HFL_13:=Hi50 (HFL_12.out.mv hm_ (fun i hi h=>h))
            have HM1_13:=Hi50 (HM1_12.out.ext hm_.ext)
            have HB1_13:=Hi50 (hm_.blk HB1_12.out (fun h=>h))
            have HB2_13:=Hi50 (hm_.blk HB2_12.out (fun h=>h))
            have HMA_13:=Hi50 (HMA_12.out.ext hm_.ext)
            have HBf_13:=Hi50 (hm_.blk HBf_12.out (fun h=>h))
            clear hm_ he_
            go_wp2_with fail
            go_roundw
            case rel=>exact ⟨j+1,by go_num,by rw [alB_t HB15.out HE15.out],by rw [alB_e HE16.out],by omega,Hi50 ⟨HX13.out,HB0_13.out,HFL_13.out,HM1_13.out,HB1_13.out,HB2_13.out,HMA_13.out,HBf_13.out⟩⟩
            case measure=>simp [intOf];omega
          ·rw [hb]
           have HB16:=Hi50 hb
           go_wp2_with fail
           refine region_e [.val (.bool false),.val (.bool false),.off,.off,.off,.off,.off,.off,.off,.off,.off,.off,.off,.val (.bool false),.val (.bool false)] (fun L g W=>True) (S:=fun _=>False) (by kernel_rfl) (by kernel_rfl) (by kernel_rfl) (Mv.refl (Ext.refl _) (fun k h=>h.elim)) ?_ ?_ ?_ ?_ (fun gv_ w13 hm_ he_=>?_)
           ·exact fun _=>trivial
           ·exact fun _ _ _ _ h _=>h
           ·exact fun _ _ _ _ _ _ h=>h
           ·skip
            refine RV (fun A_ hs_ K_ hK_=>?_) ?_;· have q16_:=(hs_.old 16:A_.tmps[16]?.getD undef = .bool false);go_simp;exact fin_ hK_
            refine RV (fun A_ hs_ K_ hK_=>?_) ?_;· have q114_:=hs_.val 0;go_simp;exact fin_ hK_
            refine RO (RO (RO (RO (RO (RO (RO (RO (RO (RO (RO (RV (fun A_ hs_ K_ hK_=>?_) ?_)))))))))));· have q115_:=hs_.val 1;have q126_:=hs_.un 12;go_simp;exact fin_ hK_
            refine RV (fun A_ hs_ K_ hK_=>?_) ?_;· have q127_:=hs_.val 13;go_simp;exact fin_ hK_
            exact RnEL.nil
           simp only [fse,Ke.value,puts,Act.put,List.setIfInBounds_toArray,List.set_cons_zero,List.set_cons_succ]
           have HX13:=Hi50 (HX12.out.trans hm_.ext)
           have HB0_13:=Hi50 (hm_.blk HB0_12.out (fun h=>h))
           have HFL_13:=Hi50 (HFL_12.out.mv hm_ (fun i hi h=>h))
           have HM1_13:=Hi50 (HM1_12.out.ext hm_.ext)
           have HB1_13:=Hi50 (hm_.blk HB1_12.out (fun h=>h))
           have HB2_13:=Hi50 (hm_.blk HB2_12.out (fun h=>h))
           have HMA_13:=Hi50 (HMA_12.out.ext hm_.ext)
           have HBf_13:=Hi50 (hm_.blk HBf_12.out (fun h=>h))
           clear hm_ he_
           go_wp2_with fail
           go_roundw
           case rel=>exact ⟨j+1,by go_num,by rw [alB_t HB15.out HE15.out],by rw [alB_f HB16.out],by omega,Hi50 ⟨HX13.out,HB0_13.out,HFL_13.out,HM1_13.out,HB1_13.out,HB2_13.out,HMA_13.out,HBf_13.out⟩⟩
           case measure=>simp [intOf];omega
         ·have HE15:=Hi50 hz
          have z15:=qs_not0 hz
          clear hz
          have cf_j:=HBf_12.out.cell (j) (HCF.out j hlt)
          go_upto_region 26 with fail
          clear cf_j
          rcases Bool.eq_false_or_eq_true (alB (P.comb (yq t)) (fun i=>-P.C i) j) with hb|hb
          ·rw [hb]
           have HB16:=Hi50 hb
           by_cases hz:P.comb (yq t) j=-P.C j
           ·have HE16:=Hi50 hz
            have z16:=qs_eqL hz
            clear hz
            go_wp2_with fail
            refine region_e [.val (.bool true),.val (.bool true),.val (.slice (some ⟨fk,0,none⟩) P.n P.n),.val (.int .i64 (j:Int)),.val (.pointer (some ⟨fk,j,none⟩)),.val (.string (qs (P.comb (yq t) j))),.val (.pointer (some ⟨w4.heap.size,2,none⟩)),.val (.slice (some ca) P.n ccap),.val (.int .i64 (j:Int)),.val (.pointer (some (ca.add j))),.val (.string (qs (P.C j))),.val (.string (qs (-P.C j))),.val (.bool true),.val (.bool true),.val (.bool true)] (fun L g W=>True) (S:=fun _=>False) (by kernel_rfl) (by kernel_rfl) (by kernel_rfl) (Mv.refl (Ext.refl _) (fun k h=>h.elim)) ?_ ?_ ?_ ?_ (fun gv_ w13 hm_ he_=>?_)
            ·exact fun _=>trivial
            ·exact fun _ _ _ _ h _=>h
            ·exact fun _ _ _ _ _ _ h=>h
            ·skip
             refine RV (fun A_ hs_ K_ hK_=>?_) ?_;· have q16_:=(hs_.old 16:A_.tmps[16]?.getD undef = .bool true);go_simp;exact fin_ hK_
             refine RV (fun A_ hs_ K_ hK_=>?_) ?_;· have q114_:=hs_.val 0;go_simp;exact fin_ hK_
             refine RV (fun A_ hs_ K_ hK_=>?_) ?_;· have q13_:=(hs_.old 13:A_.tmps[13]?.getD undef = .slice (some ⟨fk,0,none⟩) P.n P.n);go_simp;exact fin_ hK_
             refine RV (fun A_ hs_ K_ hK_=>?_) ?_;· have q17_:=(hs_.old 17:A_.tmps[17]?.getD undef = .int .i64 (j:Int));go_simp;exact fin_ hK_
             refine RV (fun A_ hs_ K_ hK_=>?_) ?_;· have q116_:=hs_.val 2;have q117_:=hs_.val 3;go_simp;exact fin_ hK_
             refine RV (fun A_ hs_ K_ hK_=>?_) ?_;· have q118_:=hs_.val 4;have cf_j:=(hs_.mv.blk HBf_12.out (fun h=>h)).cell (j) (HCF.out j hlt);go_simp;exact fin_ hK_
             refine RV (fun A_ hs_ K_ hK_=>?_) ?_;· have q7_:=(hs_.old 7:A_.tmps[7]?.getD undef = .pointer (some ⟨w4.heap.size,0,none⟩));go_simp;exact fin_ hK_
             refine RV (fun A_ hs_ K_ hK_=>?_) ?_;· have q120_:=hs_.val 6;have c1_2:=(hs_.mv.blk HB1_12.out (fun h=>h)).cell 2 rfl;go_simp;exact fin_ hK_
             refine RV (fun A_ hs_ K_ hK_=>?_) ?_;· have q17_:=(hs_.old 17:A_.tmps[17]?.getD undef = .int .i64 (j:Int));go_simp;exact fin_ hK_
             refine RV (fun A_ hs_ K_ hK_=>?_) ?_;· have q121_:=hs_.val 7;have q122_:=hs_.val 8;go_simp;exact fin_ hK_
             refine RV (fun A_ hs_ K_ hK_=>?_) ?_;· have q123_:=hs_.val 9;have cc_j:=keepA (HM1_12.out.ext hs_.mv.ext).out (HCc.out);go_simp;exact fin_ hK_
             refine RV (fun A_ hs_ K_ hK_=>?_) ?_;· have q124_:=hs_.val 10;go_simp;refine (p3_neg (P.C j) _ (HG.out.ext (HX12.out.trans hs_.mv.ext)) ((HSM.out.qc j hlt).mono (by omega))).mono ?_;rintro e W9_ ⟨rfl,e9_⟩;exact hK_.out _ e9_
             refine RV (fun A_ hs_ K_ hK_=>?_) ?_;· have q119_:=hs_.val 5;have q125_:=hs_.val 11;go_simp;exact fin_ hK_
             refine RV (fun A_ hs_ K_ hK_=>?_) ?_;· have q115_:=hs_.val 1;have q126_:=hs_.val 12;go_simp;exact fin_ hK_
             refine RV (fun A_ hs_ K_ hK_=>?_) ?_;· have q127_:=hs_.val 13;go_simp;exact fin_ hK_
             exact RnEL.nil
            simp only [fse,Ke.value,puts,Act.put,List.setIfInBounds_toArray,List.set_cons_zero,List.set_cons_succ]
            have HX13:=Hi50 (HX12.out.trans hm_.ext)
            have HB0_13:=Hi50 (hm_.blk HB0_12.out (fun h=>h))
            have HFL_13:=Hi50 (HFL_12.out.mv hm_ (fun i hi h=>h))
            have HM1_13:=Hi50 (HM1_12.out.ext hm_.ext)
            have HB1_13:=Hi50 (hm_.blk HB1_12.out (fun h=>h))
            have HB2_13:=Hi50 (hm_.blk HB2_12.out (fun h=>h))
            have HMA_13:=Hi50 (HMA_12.out.ext hm_.ext)
            have HBf_13:=Hi50 (hm_.blk HBf_12.out (fun h=>h))
            clear hm_ he_
            go_wp2_with fail
            go_roundw
            case rel=>exact ⟨j+1,by go_num,by rw [alB_e HE15.out],by rw [alB_t HB16.out HE16.out],by omega,Hi50 ⟨HX13.out,HB0_13.out,HFL_13.out,HM1_13.out,HB1_13.out,HB2_13.out,HMA_13.out,HBf_13.out⟩⟩
            case measure=>simp [intOf];omega
           ·have HE16:=Hi50 hz
            have z16:=qs_neL hz
            clear hz
            go_wp2_with fail
            refine region_e [.val (.bool true),.val (.bool true),.val (.slice (some ⟨fk,0,none⟩) P.n P.n),.val (.int .i64 (j:Int)),.val (.pointer (some ⟨fk,j,none⟩)),.val (.string (qs (P.comb (yq t) j))),.val (.pointer (some ⟨w4.heap.size,2,none⟩)),.val (.slice (some ca) P.n ccap),.val (.int .i64 (j:Int)),.val (.pointer (some (ca.add j))),.val (.string (qs (P.C j))),.val (.string (qs (-P.C j))),.val (.bool false),.val (.bool false),.val (.bool false)] (fun L g W=>True) (S:=fun _=>False) (by kernel_rfl) (by kernel_rfl) (by kernel_rfl) (Mv.refl (Ext.refl _) (fun k h=>h.elim)) ?_ ?_ ?_ ?_ (fun gv_ w13 hm_ he_=>?_)
            ·exact fun _=>trivial
            ·exact fun _ _ _ _ h _=>h
            ·exact fun _ _ _ _ _ _ h=>h
            ·skip
             refine RV (fun A_ hs_ K_ hK_=>?_) ?_;· have q16_:=(hs_.old 16:A_.tmps[16]?.getD undef = .bool true);go_simp;exact fin_ hK_
             refine RV (fun A_ hs_ K_ hK_=>?_) ?_;· have q114_:=hs_.val 0;go_simp;exact fin_ hK_
             refine RV (fun A_ hs_ K_ hK_=>?_) ?_;· have q13_:=(hs_.old 13:A_.tmps[13]?.getD undef = .slice (some ⟨fk,0,none⟩) P.n P.n);go_simp;exact fin_ hK_
             refine RV (fun A_ hs_ K_ hK_=>?_) ?_;· have q17_:=(hs_.old 17:A_.tmps[17]?.getD undef = .int .i64 (j:Int));go_simp;exact fin_ hK_
             refine RV (fun A_ hs_ K_ hK_=>?_) ?_;· have q116_:=hs_.val 2;have q117_:=hs_.val 3;go_simp;exact fin_ hK_
             refine RV (fun A_ hs_ K_ hK_=>?_) ?_;· have q118_:=hs_.val 4;have cf_j:=(hs_.mv.blk HBf_12.out (fun h=>h)).cell (j) (HCF.out j hlt);go_simp;exact fin_ hK_
             refine RV (fun A_ hs_ K_ hK_=>?_) ?_;· have q7_:=(hs_.old 7:A_.tmps[7]?.getD undef = .pointer (some ⟨w4.heap.size,0,none⟩));go_simp;exact fin_ hK_
             refine RV (fun A_ hs_ K_ hK_=>?_) ?_;· have q120_:=hs_.val 6;have c1_2:=(hs_.mv.blk HB1_12.out (fun h=>h)).cell 2 rfl;go_simp;exact fin_ hK_
             refine RV (fun A_ hs_ K_ hK_=>?_) ?_;· have q17_:=(hs_.old 17:A_.tmps[17]?.getD undef = .int .i64 (j:Int));go_simp;exact fin_ hK_
             refine RV (fun A_ hs_ K_ hK_=>?_) ?_;· have q121_:=hs_.val 7;have q122_:=hs_.val 8;go_simp;exact fin_ hK_
             refine RV (fun A_ hs_ K_ hK_=>?_) ?_;· have q123_:=hs_.val 9;have cc_j:=keepA (HM1_12.out.ext hs_.mv.ext).out (HCc.out);go_simp;exact fin_ hK_
             refine RV (fun A_ hs_ K_ hK_=>?_) ?_;· have q124_:=hs_.val 10;go_simp;refine (p3_neg (P.C j) _ (HG.out.ext (HX12.out.trans hs_.mv.ext)) ((HSM.out.qc j hlt).mono (by omega))).mono ?_;rintro e W9_ ⟨rfl,e9_⟩;exact hK_.out _ e9_
             refine RV (fun A_ hs_ K_ hK_=>?_) ?_;· have q119_:=hs_.val 5;have q125_:=hs_.val 11;go_simp;exact fin_ hK_
             refine RV (fun A_ hs_ K_ hK_=>?_) ?_;· have q115_:=hs_.val 1;have q126_:=hs_.val 12;go_simp;exact fin_ hK_
             refine RV (fun A_ hs_ K_ hK_=>?_) ?_;· have q127_:=hs_.val 13;go_simp;exact fin_ hK_
             exact RnEL.nil
            simp only [fse,Ke.value,puts,Act.put,List.setIfInBounds_toArray,List.set_cons_zero,List.set_cons_succ]
            have HX13:=Hi50 (HX12.out.trans hm_.ext)
            have HB0_13:=Hi50 (hm_.blk HB0_12.out (fun h=>h))
            have HFL_13:=Hi50 (HFL_12.out.mv hm_ (fun i hi h=>h))
            have HM1_13:=Hi50 (HM1_12.out.ext hm_.ext)
            have HB1_13:=Hi50 (hm_.blk HB1_12.out (fun h=>h))
            have HB2_13:=Hi50 (hm_.blk HB2_12.out (fun h=>h))
            have HMA_13:=Hi50 (HMA_12.out.ext hm_.ext)
            have HBf_13:=Hi50 (hm_.blk HBf_12.out (fun h=>h))
            clear hm_ he_
            go_wp2_with fail
            go_roundw
            case rel=>exact ⟨j+1,by go_num,by rw [alB_e HE15.out],by rw [alB_e HE16.out],by omega,Hi50 ⟨HX13.out,HB0_13.out,HFL_13.out,HM1_13.out,HB1_13.out,HB2_13.out,HMA_13.out,HBf_13.out⟩⟩
            case measure=>simp [intOf];omega
          ·rw [hb]
           have HB16:=Hi50 hb
           go_wp2_with fail
           refine region_e [.val (.bool false),.val (.bool false),.off,.off,.off,.off,.off,.off,.off,.off,.off,.off,.off,.val (.bool false),.val (.bool false)] (fun L g W=>True) (S:=fun _=>False) (by kernel_rfl) (by kernel_rfl) (by kernel_rfl) (Mv.refl (Ext.refl _) (fun k h=>h.elim)) ?_ ?_ ?_ ?_ (fun gv_ w13 hm_ he_=>?_)
           ·exact fun _=>trivial
           ·exact fun _ _ _ _ h _=>h
           ·exact fun _ _ _ _ _ _ h=>h
           ·skip
            refine RV (fun A_ hs_ K_ hK_=>?_) ?_;· have q16_:=(hs_.old 16:A_.tmps[16]?.getD undef = .bool false);go_simp;exact fin_ hK_
            refine RV (fun A_ hs_ K_ hK_=>?_) ?_;· have q114_:=hs_.val 0;go_simp;exact fin_ hK_
            refine RO (RO (RO (RO (RO (RO (RO (RO (RO (RO (RO (RV (fun A_ hs_ K_ hK_=>?_) ?_)))))))))));· have q115_:=hs_.val 1;have q126_:=hs_.un 12;go_simp;exact fin_ hK_
            refine RV (fun A_ hs_ K_ hK_=>?_) ?_;· have q127_:=hs_.val 13;go_simp;exact fin_ hK_
            exact RnEL.nil
           simp only [fse,Ke.value,puts,Act.put,List.setIfInBounds_toArray,List.set_cons_zero,List.set_cons_succ]
           have HX13:=Hi50 (HX12.out.trans hm_.ext)
           have HB0_13:=Hi50 (hm_.blk HB0_12.out (fun h=>h))
           have HFL_13:=Hi50 (HFL_12.out.mv hm_ (fun i hi h=>h))
           have HM1_13:=Hi50 (HM1_12.out.ext hm_.ext)
           have HB1_13:=Hi50 (hm_.blk HB1_12.out (fun h=>h))
           have HB2_13:=Hi50 (hm_.blk HB2_12.out (fun h=>h))
           have HMA_13:=Hi50 (HMA_12.out.ext hm_.ext)
           have HBf_13:=Hi50 (hm_.blk HBf_12.out (fun h=>h))
           clear hm_ he_
           go_wp2_with fail
           go_roundw
           case rel=>exact ⟨j+1,by go_num,by rw [alB_e HE15.out],by rw [alB_f HB16.out],by omega,Hi50 ⟨HX13.out,HB0_13.out,HFL_13.out,HM1_13.out,HB1_13.out,HB2_13.out,HMA_13.out,HBf_13.out⟩⟩
           case measure=>simp [intOf];omega
        ·rw [hb]
         have HB15:=Hi50 hb
         go_upto_region 26 with fail
         rcases Bool.eq_false_or_eq_true (alB (P.comb (yq t)) (fun i=>-P.C i) j) with hb|hb
         ·rw [hb]
          have HB16:=Hi50 hb
          by_cases hz:P.comb (yq t) j=-P.C j
          ·have HE16:=Hi50 hz
           have z16:=qs_eqL hz
           clear hz
           go_wp2_with fail
           refine region_e [.val (.bool true),.val (.bool true),.val (.slice (some ⟨fk,0,none⟩) P.n P.n),.val (.int .i64 (j:Int)),.val (.pointer (some ⟨fk,j,none⟩)),.val (.string (qs (P.comb (yq t) j))),.val (.pointer (some ⟨w4.heap.size,2,none⟩)),.val (.slice (some ca) P.n ccap),.val (.int .i64 (j:Int)),.val (.pointer (some (ca.add j))),.val (.string (qs (P.C j))),.val (.string (qs (-P.C j))),.val (.bool true),.val (.bool true),.val (.bool true)] (fun L g W=>True) (S:=fun _=>False) (by kernel_rfl) (by kernel_rfl) (by kernel_rfl) (Mv.refl (Ext.refl _) (fun k h=>h.elim)) ?_ ?_ ?_ ?_ (fun gv_ w13 hm_ he_=>?_)
           ·exact fun _=>trivial
           ·exact fun _ _ _ _ h _=>h
           ·exact fun _ _ _ _ _ _ h=>h
           ·skip
            refine RV (fun A_ hs_ K_ hK_=>?_) ?_;· have q16_:=(hs_.old 16:A_.tmps[16]?.getD undef = .bool true);go_simp;exact fin_ hK_
            refine RV (fun A_ hs_ K_ hK_=>?_) ?_;· have q114_:=hs_.val 0;go_simp;exact fin_ hK_
            refine RV (fun A_ hs_ K_ hK_=>?_) ?_;· have q13_:=(hs_.old 13:A_.tmps[13]?.getD undef = .slice (some ⟨fk,0,none⟩) P.n P.n);go_simp;exact fin_ hK_
            refine RV (fun A_ hs_ K_ hK_=>?_) ?_;· have q17_:=(hs_.old 17:A_.tmps[17]?.getD undef = .int .i64 (j:Int));go_simp;exact fin_ hK_
            refine RV (fun A_ hs_ K_ hK_=>?_) ?_;· have q116_:=hs_.val 2;have q117_:=hs_.val 3;go_simp;exact fin_ hK_
            refine RV (fun A_ hs_ K_ hK_=>?_) ?_;· have q118_:=hs_.val 4;have cf_j:=(hs_.mv.blk HBf_12.out (fun h=>h)).cell (j) (HCF.out j hlt);go_simp;exact fin_ hK_
            refine RV (fun A_ hs_ K_ hK_=>?_) ?_;· have q7_:=(hs_.old 7:A_.tmps[7]?.getD undef = .pointer (some ⟨w4.heap.size,0,none⟩));go_simp;exact fin_ hK_
            refine RV (fun A_ hs_ K_ hK_=>?_) ?_;· have q120_:=hs_.val 6;have c1_2:=(hs_.mv.blk HB1_12.out (fun h=>h)).cell 2 rfl;go_simp;exact fin_ hK_
            refine RV (fun A_ hs_ K_ hK_=>?_) ?_;· have q17_:=(hs_.old 17:A_.tmps[17]?.getD undef = .int .i64 (j:Int));go_simp;exact fin_ hK_
            refine RV (fun A_ hs_ K_ hK_=>?_) ?_;· have q121_:=hs_.val 7;have q122_:=hs_.val 8;go_simp;exact fin_ hK_
            refine RV (fun A_ hs_ K_ hK_=>?_) ?_;· have q123_:=hs_.val 9;have cc_j:=keepA (HM1_12.out.ext hs_.mv.ext).out (HCc.out);go_simp;exact fin_ hK_
            refine RV (fun A_ hs_ K_ hK_=>?_) ?_;· have q124_:=hs_.val 10;go_simp;refine (p3_neg (P.C j) _ (HG.out.ext (HX12.out.trans hs_.mv.ext)) ((HSM.out.qc j hlt).mono (by omega))).mono ?_;rintro e W9_ ⟨rfl,e9_⟩;exact hK_.out _ e9_
            refine RV (fun A_ hs_ K_ hK_=>?_) ?_;· have q119_:=hs_.val 5;have q125_:=hs_.val 11;go_simp;exact fin_ hK_
            refine RV (fun A_ hs_ K_ hK_=>?_) ?_;· have q115_:=hs_.val 1;have q126_:=hs_.val 12;go_simp;exact fin_ hK_
            refine RV (fun A_ hs_ K_ hK_=>?_) ?_;· have q127_:=hs_.val 13;go_simp;exact fin_ hK_
            exact RnEL.nil
           simp only [fse,Ke.value,puts,Act.put,List.setIfInBounds_toArray,List.set_cons_zero,List.set_cons_succ]
           have HX13:=Hi50 (HX12.out.trans hm_.ext)
           have HB0_13:=Hi50 (hm_.blk HB0_12.out (fun h=>h))
           have HFL_13:=Hi50 (HFL_12.out.mv hm_ (fun i hi h=>h))
           have HM1_13:=Hi50 (HM1_12.out.ext hm_.ext)
           have HB1_13:=Hi50 (hm_.blk HB1_12.out (fun h=>h))
           have HB2_13:=Hi50 (hm_.blk HB2_12.out (fun h=>h))
           have HMA_13:=Hi50 (HMA_12.out.ext hm_.ext)
           have HBf_13:=Hi50 (hm_.blk HBf_12.out (fun h=>h))
           clear hm_ he_
           go_wp2_with fail
           go_roundw
           case rel=>exact ⟨j+1,by go_num,by rw [alB_f HB15.out],by rw [alB_t HB16.out HE16.out],by omega,Hi50 ⟨HX13.out,HB0_13.out,HFL_13.out,HM1_13.out,HB1_13.out,HB2_13.out,HMA_13.out,HBf_13.out⟩⟩
           case measure=>simp [intOf];omega
          ·have HE16:=Hi50 hz
           have z16:=qs_neL hz
           clear hz
           go_wp2_with fail
           refine region_e [.val (.bool true),.val (.bool true),.val (.slice (some ⟨fk,0,none⟩) P.n P.n),.val (.int .i64 (j:Int)),.val (.pointer (some ⟨fk,j,none⟩)),.val (.string (qs (P.comb (yq t) j))),.val (.pointer (some ⟨w4.heap.size,2,none⟩)),.val (.slice (some ca) P.n ccap),.val (.int .i64 (j:Int)),.val (.pointer (some (ca.add j))),.val (.string (qs (P.C j))),.val (.string (qs (-P.C j))),.val (.bool false),.val (.bool false),.val (.bool false)] (fun L g W=>True) (S:=fun _=>False) (by kernel_rfl) (by kernel_rfl) (by kernel_rfl) (Mv.refl (Ext.refl _) (fun k h=>h.elim)) ?_ ?_ ?_ ?_ (fun gv_ w13 hm_ he_=>?_)
           ·exact fun _=>trivial
           ·exact fun _ _ _ _ h _=>h
           ·exact fun _ _ _ _ _ _ h=>h
           ·skip
            refine RV (fun A_ hs_ K_ hK_=>?_) ?_;· have q16_:=(hs_.old 16:A_.tmps[16]?.getD undef = .bool true);go_simp;exact fin_ hK_
            refine RV (fun A_ hs_ K_ hK_=>?_) ?_;· have q114_:=hs_.val 0;go_simp;exact fin_ hK_
            refine RV (fun A_ hs_ K_ hK_=>?_) ?_;· have q13_:=(hs_.old 13:A_.tmps[13]?.getD undef = .slice (some ⟨fk,0,none⟩) P.n P.n);go_simp;exact fin_ hK_
            refine RV (fun A_ hs_ K_ hK_=>?_) ?_;· have q17_:=(hs_.old 17:A_.tmps[17]?.getD undef = .int .i64 (j:Int));go_simp;exact fin_ hK_
            refine RV (fun A_ hs_ K_ hK_=>?_) ?_;· have q116_:=hs_.val 2;have q117_:=hs_.val 3;go_simp;exact fin_ hK_
            refine RV (fun A_ hs_ K_ hK_=>?_) ?_;· have q118_:=hs_.val 4;have cf_j:=(hs_.mv.blk HBf_12.out (fun h=>h)).cell (j) (HCF.out j hlt);go_simp;exact fin_ hK_
            refine RV (fun A_ hs_ K_ hK_=>?_) ?_;· have q7_:=(hs_.old 7:A_.tmps[7]?.getD undef = .pointer (some ⟨w4.heap.size,0,none⟩));go_simp;exact fin_ hK_
            refine RV (fun A_ hs_ K_ hK_=>?_) ?_;· have q120_:=hs_.val 6;have c1_2:=(hs_.mv.blk HB1_12.out (fun h=>h)).cell 2 rfl;go_simp;exact fin_ hK_
            refine RV (fun A_ hs_ K_ hK_=>?_) ?_;· have q17_:=(hs_.old 17:A_.tmps[17]?.getD undef = .int .i64 (j:Int));go_simp;exact fin_ hK_
            refine RV (fun A_ hs_ K_ hK_=>?_) ?_;· have q121_:=hs_.val 7;have q122_:=hs_.val 8;go_simp;exact fin_ hK_
            refine RV (fun A_ hs_ K_ hK_=>?_) ?_;· have q123_:=hs_.val 9;have cc_j:=keepA (HM1_12.out.ext hs_.mv.ext).out (HCc.out);go_simp;exact fin_ hK_
            refine RV (fun A_ hs_ K_ hK_=>?_) ?_;· have q124_:=hs_.val 10;go_simp;refine (p3_neg (P.C j) _ (HG.out.ext (HX12.out.trans hs_.mv.ext)) ((HSM.out.qc j hlt).mono (by omega))).mono ?_;rintro e W9_ ⟨rfl,e9_⟩;exact hK_.out _ e9_
            refine RV (fun A_ hs_ K_ hK_=>?_) ?_;· have q119_:=hs_.val 5;have q125_:=hs_.val 11;go_simp;exact fin_ hK_
            refine RV (fun A_ hs_ K_ hK_=>?_) ?_;· have q115_:=hs_.val 1;have q126_:=hs_.val 12;go_simp;exact fin_ hK_
            refine RV (fun A_ hs_ K_ hK_=>?_) ?_;· have q127_:=hs_.val 13;go_simp;exact fin_ hK_
            exact RnEL.nil
           simp only [fse,Ke.value,puts,Act.put,List.setIfInBounds_toArray,List.set_cons_zero,List.set_cons_succ]
           have HX13:=Hi50 (HX12.out.trans hm_.ext)
           have HB0_13:=Hi50 (hm_.blk HB0_12.out (fun h=>h))
           have HFL_13:=Hi50 (HFL_12.out.mv hm_ (fun i hi h=>h))
           have HM1_13:=Hi50 (HM1_12.out.ext hm_.ext)
           have HB1_13:=Hi50 (hm_.blk HB1_12.out (fun h=>h))
           have HB2_13:=Hi50 (hm_.blk HB2_12.out (fun h=>h))
           have HMA_13:=Hi50 (HMA_12.out.ext hm_.ext)
           have HBf_13:=Hi50 (hm_.blk HBf_12.out (fun h=>h))
           clear hm_ he_
           go_wp2_with fail
           go_roundw
           case rel=>exact ⟨j+1,by go_num,by rw [alB_f HB15.out],by rw [alB_e HE16.out],by omega,Hi50 ⟨HX13.out,HB0_13.out,HFL_13.out,HM1_13.out,HB1_13.out,HB2_13.out,HMA_13.out,HBf_13.out⟩⟩
           case measure=>simp [intOf];omega
         ·rw [hb]
          have HB16:=Hi50 hb
          go_wp2_with fail
          refine region_e [.val (.bool false),.val (.bool false),.off,.off,.off,.off,.off,.off,.off,.off,.off,.off,.off,.val (.bool false),.val (.bool false)] (fun L g W=>True) (S:=fun _=>False) (by kernel_rfl) (by kernel_rfl) (by kernel_rfl) (Mv.refl (Ext.refl _) (fun k h=>h.elim)) ?_ ?_ ?_ ?_ (fun gv_ w13 hm_ he_=>?_)
          ·exact fun _=>trivial
          ·exact fun _ _ _ _ h _=>h
          ·exact fun _ _ _ _ _ _ h=>h
          ·skip
           refine RV (fun A_ hs_ K_ hK_=>?_) ?_;· have q16_:=(hs_.old 16:A_.tmps[16]?.getD undef = .bool false);go_simp;exact fin_ hK_
           refine RV (fun A_ hs_ K_ hK_=>?_) ?_;· have q114_:=hs_.val 0;go_simp;exact fin_ hK_
           refine RO (RO (RO (RO (RO (RO (RO (RO (RO (RO (RO (RV (fun A_ hs_ K_ hK_=>?_) ?_)))))))))));· have q115_:=hs_.val 1;have q126_:=hs_.un 12;go_simp;exact fin_ hK_
           refine RV (fun A_ hs_ K_ hK_=>?_) ?_;· have q127_:=hs_.val 13;go_simp;exact fin_ hK_
           exact RnEL.nil
          simp only [fse,Ke.value,puts,Act.put,List.setIfInBounds_toArray,List.set_cons_zero,List.set_cons_succ]
          have HX13:=Hi50 (HX12.out.trans hm_.ext)
          have HB0_13:=Hi50 (hm_.blk HB0_12.out (fun h=>h))
          have HFL_13:=Hi50 (HFL_12.out.mv hm_ (fun i hi h=>h))
          have HM1_13:=Hi50 (HM1_12.out.ext hm_.ext)
          have HB1_13:=Hi50 (hm_.blk HB1_12.out (fun h=>h))
          have HB2_13:=Hi50 (hm_.blk HB2_12.out (fun h=>h))
          have HMA_13:=Hi50 (HMA_12.out.ext hm_.ext)
          have HBf_13:=Hi50 (hm_.blk HBf_12.out (fun h=>h))
          clear hm_ he_
          go_wp2_with fail
          go_roundw
          case rel=>exact ⟨j+1,by go_num,by rw [alB_f HB15.out],by rw [alB_f HB16.out],by omega,Hi50 ⟨HX13.out,HB0_13.out,HFL_13.out,HM1_13.out,HB1_13.out,HB2_13.out,HMA_13.out,HBf_13.out⟩⟩
          case measure=>simp [intOf];omega
       ·have hk2:j=P.n:=by omega
        have hge:¬ (j:Int)<((P.n:Nat):Int):=by omega
        have HJN:=Hi50 hk2
        have c1_0:=HB1_12.out.cell 0 rfl
        go_upto_region 27 with fail
        clear c1_0
        by_cases hN:∀ i,i<P.n->P.comb (yq t) i=0
        ·have hb1:=alB_iff.2 (show ∀ i,i<j->_ from fun i hi=>hN i (by have:=HJN.out;omega))
         have hb1n:alB (P.comb (yq t)) (fun _=>0) P.n=true:=alB_iff.2 hN
         rcases sgn3 (P.bnd (yq t)) with ⟨h1,h2⟩|⟨h1,h2⟩|⟨h1,h2⟩
         ·obtain rfl:re=0:=by rw [← HRE.out,rfc,if_neg (fun h=>h HM0.out),if_pos ⟨h2,hN⟩]
          have HSG:=Hi50 h1;clear h1 h2 hN
          by_cases hA:∀ i,i<P.n->P.comb (yq t) i=-P.C i
          ·have hb2:=alB_iff.2 (show ∀ i,i<j->_ from fun i hi=>hA i (by have:=HJN.out;omega))
           have hb2n:alB (P.comb (yq t)) (fun i=>-P.C i) P.n=true:=alB_iff.2 hA
           obtain rfl:be=0:=by rw [← HBE.out,bdc,if_neg (fun h=>h HM0.out),if_pos hA]
           obtain rfl:bt=qs (-P.bnd (yq t)):=by rw [← HBT.out,bdc,if_neg (fun h=>h HM0.out),if_pos hA]
           clear hA
           go_wp2_with fail
           refine ((HSG.out▸sg7_c (P.bnd (yq t)) _ (HG.out.ext (HX12.out)) (HBN.out.mono (by omega)))).mono ?_;rintro e w13 ⟨rfl,e13⟩
           have HX13:=Hi50 (HX12.out.trans e13)
           have HB0_13:=Hi50 (HB0_12.out.ext e13)
           have HFL_13:=Hi50 (HFL_12.out.ext e13)
           have HM1_13:=Hi50 (HM1_12.out.ext e13)
           have HB1_13:=Hi50 (HB1_12.out.ext e13)
           have HB2_13:=Hi50 (HB2_12.out.ext e13)
           have HMA_13:=Hi50 (HMA_12.out.ext e13)
           have HBf_13:=Hi50 (HBf_12.out.ext e13)
           clear e13
           go_wp2_with fail
           refine (p3_neg (P.bnd (yq t)) _ (HG.out.ext (HX13.out)) (HBN.out.mono (by omega))).mono ?_;rintro e w14 ⟨rfl,e14⟩
           have HX14:=Hi50 (HX13.out.trans e14)
           have HB0_14:=Hi50 (HB0_13.out.ext e14)
           have HFL_14:=Hi50 (HFL_13.out.ext e14)
           have HM1_14:=Hi50 (HM1_13.out.ext e14)
           have HB1_14:=Hi50 (HB1_13.out.ext e14)
           have HB2_14:=Hi50 (HB2_13.out.ext e14)
           have HMA_14:=Hi50 (HMA_13.out.ext e14)
           have HBf_14:=Hi50 (HBf_13.out.ext e14)
           clear e14
           go_wp2
           go_ret
           exact ⟨rfl,HX14.out⟩
          ·have hb2:alB (P.comb (yq t)) (fun i=>-P.C i) j=false:=Bool.eq_false_iff.2 (fun h=>hA (fun i hi=>alB_iff.1 h i (by have:=HJN.out;omega)))
           have hb2n:alB (P.comb (yq t)) (fun i=>-P.C i) P.n=false:=Bool.eq_false_iff.2 (fun h=>hA (alB_iff.1 h))
           obtain rfl:be=23:=by rw [← HBE.out,bdc,if_neg (fun h=>h HM0.out),if_neg hA]
           obtain rfl:bt=⟨#[]⟩:=by rw [← HBT.out,bdc,if_neg (fun h=>h HM0.out),if_neg hA]
           clear hA
           go_wp2_with fail
           refine ((HSG.out▸sg7_c (P.bnd (yq t)) _ (HG.out.ext (HX12.out)) (HBN.out.mono (by omega)))).mono ?_;rintro e w13 ⟨rfl,e13⟩
           have HX13:=Hi50 (HX12.out.trans e13)
           have HB0_13:=Hi50 (HB0_12.out.ext e13)
           have HFL_13:=Hi50 (HFL_12.out.ext e13)
           have HM1_13:=Hi50 (HM1_12.out.ext e13)
           have HB1_13:=Hi50 (HB1_12.out.ext e13)
           have HB2_13:=Hi50 (HB2_12.out.ext e13)
           have HMA_13:=Hi50 (HMA_12.out.ext e13)
           have HBf_13:=Hi50 (HBf_12.out.ext e13)
           clear e13
           go_wp2
           go_ret
           exact ⟨rfl,HX13.out⟩
         ·obtain rfl:re=23:=by rw [← HRE.out,rfc,if_neg (fun h=>h HM0.out),if_neg (fun h=>h2 h.1)]
          have HSG:=Hi50 h1;clear h1 h2 hN
          by_cases hA:∀ i,i<P.n->P.comb (yq t) i=-P.C i
          ·have hb2:=alB_iff.2 (show ∀ i,i<j->_ from fun i hi=>hA i (by have:=HJN.out;omega))
           have hb2n:alB (P.comb (yq t)) (fun i=>-P.C i) P.n=true:=alB_iff.2 hA
           obtain rfl:be=0:=by rw [← HBE.out,bdc,if_neg (fun h=>h HM0.out),if_pos hA]
           obtain rfl:bt=qs (-P.bnd (yq t)):=by rw [← HBT.out,bdc,if_neg (fun h=>h HM0.out),if_pos hA]
           clear hA
           go_wp2_with fail
           refine ((HSG.out▸sg7_c (P.bnd (yq t)) _ (HG.out.ext (HX12.out)) (HBN.out.mono (by omega)))).mono ?_;rintro e w13 ⟨rfl,e13⟩
           have HX13:=Hi50 (HX12.out.trans e13)
           have HB0_13:=Hi50 (HB0_12.out.ext e13)
           have HFL_13:=Hi50 (HFL_12.out.ext e13)
           have HM1_13:=Hi50 (HM1_12.out.ext e13)
           have HB1_13:=Hi50 (HB1_12.out.ext e13)
           have HB2_13:=Hi50 (HB2_12.out.ext e13)
           have HMA_13:=Hi50 (HMA_12.out.ext e13)
           have HBf_13:=Hi50 (HBf_12.out.ext e13)
           clear e13
           go_wp2_with fail
           refine (p3_neg (P.bnd (yq t)) _ (HG.out.ext (HX13.out)) (HBN.out.mono (by omega))).mono ?_;rintro e w14 ⟨rfl,e14⟩
           have HX14:=Hi50 (HX13.out.trans e14)
           have HB0_14:=Hi50 (HB0_13.out.ext e14)
           have HFL_14:=Hi50 (HFL_13.out.ext e14)
           have HM1_14:=Hi50 (HM1_13.out.ext e14)
           have HB1_14:=Hi50 (HB1_13.out.ext e14)
           have HB2_14:=Hi50 (HB2_13.out.ext e14)
           have HMA_14:=Hi50 (HMA_13.out.ext e14)
           have HBf_14:=Hi50 (HBf_13.out.ext e14)
           clear e14
           go_wp2
           go_ret
           exact ⟨rfl,HX14.out⟩
          ·have hb2:alB (P.comb (yq t)) (fun i=>-P.C i) j=false:=Bool.eq_false_iff.2 (fun h=>hA (fun i hi=>alB_iff.1 h i (by have:=HJN.out;omega)))
           have hb2n:alB (P.comb (yq t)) (fun i=>-P.C i) P.n=false:=Bool.eq_false_iff.2 (fun h=>hA (alB_iff.1 h))
           obtain rfl:be=23:=by rw [← HBE.out,bdc,if_neg (fun h=>h HM0.out),if_neg hA]
           obtain rfl:bt=⟨#[]⟩:=by rw [← HBT.out,bdc,if_neg (fun h=>h HM0.out),if_neg hA]
           clear hA
           go_wp2_with fail
           refine ((HSG.out▸sg7_c (P.bnd (yq t)) _ (HG.out.ext (HX12.out)) (HBN.out.mono (by omega)))).mono ?_;rintro e w13 ⟨rfl,e13⟩
           have HX13:=Hi50 (HX12.out.trans e13)
           have HB0_13:=Hi50 (HB0_12.out.ext e13)
           have HFL_13:=Hi50 (HFL_12.out.ext e13)
           have HM1_13:=Hi50 (HM1_12.out.ext e13)
           have HB1_13:=Hi50 (HB1_12.out.ext e13)
           have HB2_13:=Hi50 (HB2_12.out.ext e13)
           have HMA_13:=Hi50 (HMA_12.out.ext e13)
           have HBf_13:=Hi50 (HBf_12.out.ext e13)
           clear e13
           go_wp2
           go_ret
           exact ⟨rfl,HX13.out⟩
         ·obtain rfl:re=23:=by rw [← HRE.out,rfc,if_neg (fun h=>h HM0.out),if_neg (fun h=>h2 h.1)]
          have HSG:=Hi50 h1;clear h1 h2 hN
          by_cases hA:∀ i,i<P.n->P.comb (yq t) i=-P.C i
          ·have hb2:=alB_iff.2 (show ∀ i,i<j->_ from fun i hi=>hA i (by have:=HJN.out;omega))
           have hb2n:alB (P.comb (yq t)) (fun i=>-P.C i) P.n=true:=alB_iff.2 hA
           obtain rfl:be=0:=by rw [← HBE.out,bdc,if_neg (fun h=>h HM0.out),if_pos hA]
           obtain rfl:bt=qs (-P.bnd (yq t)):=by rw [← HBT.out,bdc,if_neg (fun h=>h HM0.out),if_pos hA]
           clear hA
           go_wp2_with fail
           refine ((HSG.out▸sg7_c (P.bnd (yq t)) _ (HG.out.ext (HX12.out)) (HBN.out.mono (by omega)))).mono ?_;rintro e w13 ⟨rfl,e13⟩
           have HX13:=Hi50 (HX12.out.trans e13)
           have HB0_13:=Hi50 (HB0_12.out.ext e13)
           have HFL_13:=Hi50 (HFL_12.out.ext e13)
           have HM1_13:=Hi50 (HM1_12.out.ext e13)
           have HB1_13:=Hi50 (HB1_12.out.ext e13)
           have HB2_13:=Hi50 (HB2_12.out.ext e13)
           have HMA_13:=Hi50 (HMA_12.out.ext e13)
           have HBf_13:=Hi50 (HBf_12.out.ext e13)
           clear e13
           go_wp2_with fail
           refine (p3_neg (P.bnd (yq t)) _ (HG.out.ext (HX13.out)) (HBN.out.mono (by omega))).mono ?_;rintro e w14 ⟨rfl,e14⟩
           have HX14:=Hi50 (HX13.out.trans e14)
           have HB0_14:=Hi50 (HB0_13.out.ext e14)
           have HFL_14:=Hi50 (HFL_13.out.ext e14)
           have HM1_14:=Hi50 (HM1_13.out.ext e14)
           have HB1_14:=Hi50 (HB1_13.out.ext e14)
           have HB2_14:=Hi50 (HB2_13.out.ext e14)
           have HMA_14:=Hi50 (HMA_13.out.ext e14)
           have HBf_14:=Hi50 (HBf_13.out.ext e14)
           clear e14
           go_wp2
           go_ret
           exact ⟨rfl,HX14.out⟩
          ·have hb2:alB (P.comb (yq t)) (fun i=>-P.C i) j=false:=Bool.eq_false_iff.2 (fun h=>hA (fun i hi=>alB_iff.1 h i (by have:=HJN.out;omega)))
           have hb2n:alB (P.comb (yq t)) (fun i=>-P.C i) P.n=false:=Bool.eq_false_iff.2 (fun h=>hA (alB_iff.1 h))
           obtain rfl:be=23:=by rw [← HBE.out,bdc,if_neg (fun h=>h HM0.out),if_neg hA]
           obtain rfl:bt=⟨#[]⟩:=by rw [← HBT.out,bdc,if_neg (fun h=>h HM0.out),if_neg hA]
           clear hA
           go_wp2_with fail
           refine ((HSG.out▸sg7_c (P.bnd (yq t)) _ (HG.out.ext (HX12.out)) (HBN.out.mono (by omega)))).mono ?_;rintro e w13 ⟨rfl,e13⟩
           have HX13:=Hi50 (HX12.out.trans e13)
           have HB0_13:=Hi50 (HB0_12.out.ext e13)
           have HFL_13:=Hi50 (HFL_12.out.ext e13)
           have HM1_13:=Hi50 (HM1_12.out.ext e13)
           have HB1_13:=Hi50 (HB1_12.out.ext e13)
           have HB2_13:=Hi50 (HB2_12.out.ext e13)
           have HMA_13:=Hi50 (HMA_12.out.ext e13)
           have HBf_13:=Hi50 (HBf_12.out.ext e13)
           clear e13
           go_wp2
           go_ret
           exact ⟨rfl,HX13.out⟩
        ·have hb1:alB (P.comb (yq t)) (fun _=>0) j=false:=Bool.eq_false_iff.2 (fun h=>hN (fun i hi=>alB_iff.1 h i (by have:=HJN.out;omega)))
         have hb1n:alB (P.comb (yq t)) (fun _=>0) P.n=false:=Bool.eq_false_iff.2 (fun h=>hN (alB_iff.1 h))
         obtain rfl:re=23:=by rw [← HRE.out,rfc,if_neg (fun h=>h HM0.out),if_neg (fun h=>hN h.2)]
         clear hN
         by_cases hA:∀ i,i<P.n->P.comb (yq t) i=-P.C i
         ·have hb2:=alB_iff.2 (show ∀ i,i<j->_ from fun i hi=>hA i (by have:=HJN.out;omega))
          have hb2n:alB (P.comb (yq t)) (fun i=>-P.C i) P.n=true:=alB_iff.2 hA
          obtain rfl:be=0:=by rw [← HBE.out,bdc,if_neg (fun h=>h HM0.out),if_pos hA]
          obtain rfl:bt=qs (-P.bnd (yq t)):=by rw [← HBT.out,bdc,if_neg (fun h=>h HM0.out),if_pos hA]
          clear hA
          go_wp2_with fail
          refine (p3_neg (P.bnd (yq t)) _ (HG.out.ext (HX12.out)) (HBN.out.mono (by omega))).mono ?_;rintro e w13 ⟨rfl,e13⟩
          have HX13:=Hi50 (HX12.out.trans e13)
          have HB0_13:=Hi50 (HB0_12.out.ext e13)
          have HFL_13:=Hi50 (HFL_12.out.ext e13)
          have HM1_13:=Hi50 (HM1_12.out.ext e13)
          have HB1_13:=Hi50 (HB1_12.out.ext e13)
          have HB2_13:=Hi50 (HB2_12.out.ext e13)
          have HMA_13:=Hi50 (HMA_12.out.ext e13)
          have HBf_13:=Hi50 (HBf_12.out.ext e13)
          clear e13
          go_wp2
          go_ret
          exact ⟨rfl,HX13.out⟩
         ·have hb2:alB (P.comb (yq t)) (fun i=>-P.C i) j=false:=Bool.eq_false_iff.2 (fun h=>hA (fun i hi=>alB_iff.1 h i (by have:=HJN.out;omega)))
          have hb2n:alB (P.comb (yq t)) (fun i=>-P.C i) P.n=false:=Bool.eq_false_iff.2 (fun h=>hA (alB_iff.1 h))
          obtain rfl:be=23:=by rw [← HBE.out,bdc,if_neg (fun h=>h HM0.out),if_neg hA]
          obtain rfl:bt=⟨#[]⟩:=by rw [← HBT.out,bdc,if_neg (fun h=>h HM0.out),if_neg hA]
          clear hA
          go_wp2
          go_ret
          exact ⟨rfl,HX12.out⟩
  ·have h5:(7:Int)<((ml:Nat):Int):=by omega
   go_wp2_with fail
   refine (known7_c _ (HG.out.ext (((Ext.refl w).alloc _)))).mono ?_;rintro e w1 ⟨rfl,e1⟩
   have HX1:Hid (Ext w w1):=Hi50 (((Ext.refl w).alloc _).trans e1)
   have HB0_1:Hid (Blk w1 (w.heap.size) (#[.int .u8 vv,.slice wo m wcap,.int .i8 o0,.int .i8 o1,.int .i8 o2]) 26):=Hi50 (((Blk.new' (w:=_) (cs:=#[.int .u8 vv,.slice wo m wcap,.int .i8 o0,.int .i8 o1,.int .i8 o2]) (t:=26) (by first|rfl|(simp only [World.size_alloc];done)|(simp only [World.size_alloc];omega)|simp))).ext e1)
   have HGEB0:Hid (w.heap.size<=w.heap.size):=Hi50 (Nat.le_refl _)
   clear e1
   have c0_0:=HB0_1.out.cell 0 rfl
   have c0_1:=HB0_1.out.cell 1 rfl
   have c0_2:=HB0_1.out.cell 2 rfl
   have c0_3:=HB0_1.out.cell 3 rfl
   have c0_4:=HB0_1.out.cell 4 rfl
   go_wp2_with fail
   refine ((HFT.out▸fits7_c vv m wcap wo o0 o1 o2 _)).mono ?_;rintro e w2 ⟨rfl,e2⟩
   have HX2:=Hi50 (HX1.out.trans e2)
   have HB0_2:=Hi50 (HB0_1.out.ext e2)
   clear e2 c0_0 c0_1 c0_2 c0_3 c0_4
   go_wp2_with fail
   refine (known7_c _ (HG.out.ext (HX2.out))).mono ?_;rintro e w3 ⟨rfl,e3⟩
   have HX3:=Hi50 (HX2.out.trans e3)
   have HB0_3:=Hi50 (HB0_2.out.ext e3)
   clear e3
   go_wp2
   go_ret
   exact ⟨rfl,HX3.out⟩
 ·have HFT:Hid (decide (m<=6)=false):=Hi50 (decide_eq_false hm6)
  go_wp2_with fail
  refine (known7_c _ (HG.out.ext (((Ext.refl w).alloc _)))).mono ?_;rintro e w1 ⟨rfl,e1⟩
  have HX1:Hid (Ext w w1):=Hi50 (((Ext.refl w).alloc _).trans e1)
  have HB0_1:Hid (Blk w1 (w.heap.size) (#[.int .u8 vv,.slice wo m wcap,.int .i8 o0,.int .i8 o1,.int .i8 o2]) 26):=Hi50 (((Blk.new' (w:=_) (cs:=#[.int .u8 vv,.slice wo m wcap,.int .i8 o0,.int .i8 o1,.int .i8 o2]) (t:=26) (by first|rfl|(simp only [World.size_alloc];done)|(simp only [World.size_alloc];omega)|simp))).ext e1)
  have HGEB0:Hid (w.heap.size<=w.heap.size):=Hi50 (Nat.le_refl _)
  clear e1
  have c0_0:=HB0_1.out.cell 0 rfl
  have c0_1:=HB0_1.out.cell 1 rfl
  have c0_2:=HB0_1.out.cell 2 rfl
  have c0_3:=HB0_1.out.cell 3 rfl
  have c0_4:=HB0_1.out.cell 4 rfl
  go_wp2_with fail
  refine ((HFT.out▸fits7_c vv m wcap wo o0 o1 o2 _)).mono ?_;rintro e w2 ⟨rfl,e2⟩
  have HX2:=Hi50 (HX1.out.trans e2)
  have HB0_2:=Hi50 (HB0_1.out.ext e2)
  clear e2 c0_0 c0_1 c0_2 c0_3 c0_4
  go_wp2_with fail
  refine (known7_c _ (HG.out.ext (HX2.out))).mono ?_;rintro e w3 ⟨rfl,e3⟩
  have HX3:=Hi50 (HX2.out.trans e3)
  have HB0_3:=Hi50 (HB0_2.out.ext e3)
  clear e3
  go_wp2
  go_ret
  exact ⟨rfl,HX3.out⟩
end Go.Proofs.YtcenemaadnlknaaGreatDoor
