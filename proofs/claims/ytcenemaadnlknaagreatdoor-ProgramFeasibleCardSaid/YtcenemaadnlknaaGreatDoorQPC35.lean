/- Part 35 of the proof: S20, S36, S41, S43. -/
import Derived.Test.YtcenemaadnlknaaGreatDoorQPC34
set_option maxRecDepth 100000
set_option maxHeartbeats 2000000
set_option linter.unusedSimpArgs false
set_option linter.unusedVariables false
theorem Go.Proofs.YtcenemaadnlknaaGreatDoor.Hi35 {p:Prop} (h:p):Go.RowKit.Hid p:=h
namespace Go.Proofs.YtcenemaadnlknaaGreatDoor
open Go Go.RowKit
theorem zero_row {n:Nat} {C:Array Value} (h:∀ j,j<n->C[j]?=some (.string ⟨#[48]⟩)):∀ j,j<n->C[j]?=some (.string (qs ((fun _=>(0:Rat)) j))):=fun j hj=>by rw [h j hj,qs_zero]
theorem no_worth {P:LP} (d:Nat->Rat):¬ LP.obj { P with C:=fun _=>0 } d<0:=by
 rw [LP.obj,smq_zero' (fun j _=>by show (0:Rat)*d j=0;rw [Rat.zero_mul])];decide
section
variable {P:LP} {q:Nat} {X Y w w':World} {v:Value}
theorem Blk.cast {W:World} {b:Nat} {cs cs':Array Value} {t:TypeId} (h:Blk W b cs t) (e:cs=cs'):Blk W b cs' t:=e▸h
end
def FeazP (P:LP) (q:Nat) (w:World) (e:Ending) (w':World):Prop:=Ext w w' /\
 ((∃ vp x,e = .returned (.tuple #[vp,.agg #[.slice none 0 0],.bool true,.int .i64 0])/\P.feas x/\(∀ j,j<P.n->QB q (x j))/\Nq w w' vp P.n x) ∨
  (∃ vd y,e = .returned (.tuple #[.slice none 0 0,.agg #[vd],.bool false,.int .i64 0])/\Refutes P y/\(∀ i,i<P.m->QB q (y i))/\Nq w w' vd P.m y))
theorem feaz_b {P:LP} {q:Nat} {w w':World} {vl:ByteArray} {u1 u2 u3:Value} (e:Ext w w') (h:SolV { P with C:=fun _=>0 } q w w' (.agg #[.int .i64 1,.string vl,u1,u2,u3])):FeazP P q w (.returned (.tuple #[u1,.agg #[.slice none 0 0],.bool true,.int .i64 0])) w':=by
 obtain ⟨val,x,y,_,hb,_,hx,_⟩:=h.best
 exact ⟨e,Or.inl ⟨u1,x,rfl,hb.feas,hx.1,hx.2⟩⟩
theorem feaz_i {P:LP} {q:Nat} {w w':World} {vl:ByteArray} {u1 u2 u3:Value} (e:Ext w w') (h:SolV { P with C:=fun _=>0 } q w w' (.agg #[.int .i64 2,.string vl,u1,u2,u3])):FeazP P q w (.returned (.tuple #[.slice none 0 0,.agg #[u2],.bool false,.int .i64 0])) w':=by
 obtain ⟨_,y,hb,hy,_⟩:=h.inf
 exact ⟨e,Or.inr ⟨u2,y,rfl,⟨hb.pos,hb.comb,hb.neg⟩,hy.1,hy.2⟩⟩
theorem pfeas_c (P:LP) (vr vc:Value) (va:Nat->Value) (q:Nat) (w:World) (g:Gd w) (hP:PM P w vr vc va) (SZ:Szd { P with C:=fun _=>0 } q) (Q:PQ P) (hn:P.n<=60) (hm:P.m<=300) (hq1:1<=q) (hq2:q<=200) (qa:∀ i,i<P.m->∀ j,j<P.n->QB q (P.A i j)):Calls Tryz.prog 20 #[.agg #[.int .i64 (P.n:Int),vr,vc]] w (FeazP P q w):=by
 have HG:=Hi35 g
 have HPM:=Hi35 hP
 have HQA:=Hi35 qa
 have HQP:=Hi35 Q
 clear g hP qa Q
 obtain ⟨ro,rcap,er_,_⟩:=HPM.out.rows
 obtain ⟨co,ccap,ec_,_⟩:=HPM.out.obj
 subst er_ ec_
 go_enter Tryz.func20,Tryz.ntmps20
 go_wp2_with fail
 refine (check_go P _ _ va _ (HG.out.ext ((((Ext.refl w).alloc _).alloc _))) (HPM.out.ext (((Ext.refl w).alloc _).alloc _)) HQP.out hn hm).mono ?_;rintro e w1 ⟨rfl,e1⟩
 have HX1:Hid (Ext w w1):=Hi35 ((((Ext.refl w).alloc _).alloc _).trans e1)
 have HB0_1:Hid (Blk w1 (w.heap.size) (#[.int .i64 (P.n:Int),.slice ro P.m rcap,.slice co P.n ccap]) 32):=Hi35 ((((Blk.nw (#[.int .i64 (P.n:Int),.slice ro P.m rcap,.slice co P.n ccap]) 32).alloc _)).ext e1)
 have HB1_1:Hid (Blk w1 (w.heap.size+1) (#[.slice none 0 0]) 40):=Hi35 (((Blk.nw (#[.slice none 0 0]) 40)).ext e1)
 have HGEB0:Hid (w.heap.size<=w.heap.size):=Hi35 (Nat.le_refl _)
 have HGEB1:Hid (w.heap.size<=w.heap.size+1):=Hi35 (by omega)
 clear e1
 have c0_0:=HB0_1.out.cell 0 rfl
 go_wp2_with fail
 refine (zeros_c P.n (by omega) _).mono ?_;rintro e w2 ⟨kz1,CZ1,rfl,e2,g_,b_,c_⟩
 have HNB0Bz1:Hid (w.heap.size≠kz1):=Hi35 (Nat.ne_of_lt (Nat.lt_of_lt_of_le HB0_1.out.lt g_))
 have HNB1Bz1:Hid (w.heap.size+1≠kz1):=Hi35 (Nat.ne_of_lt (Nat.lt_of_lt_of_le HB1_1.out.lt g_))
 have HGEBz1:Hid (w.heap.size<=kz1):=Hi35 (Nat.le_trans HX1.out.size g_)
 have HX2:=Hi35 (HX1.out.trans e2)
 have HB0_2:=Hi35 (HB0_1.out.ext e2)
 have HB1_2:=Hi35 (HB1_1.out.ext e2)
 clear e2 c0_0
 have HBz1_2:=Hi35 b_;have HCBz1:=Hi35 c_;clear g_ b_ c_
 have c0_2:=HB0_2.out.cell 2 rfl
 have f0_2:=HB0_2.out.free 2
 go_upto_region 5 with fail
 refine wp_name (fun W=>Ext w W/\Blk W (w.heap.size) (#[.int .i64 (P.n:Int),.slice ro P.m rcap,.slice (some ⟨kz1,0,none⟩) P.n P.n]) 32/\Blk W (w.heap.size+1) (#[.slice none 0 0]) 40/\Blk W (kz1) (CZ1) 34) ⟨(HX2.out.setCell (HGEB0.out) _),(HB0_2.out.set 2 (.slice (some ⟨kz1,0,none⟩) P.n P.n)),(HB1_2.out.other (a:=⟨w.heap.size,2,none⟩) _ (by first|omega|(simp only [];omega)|(simp;omega))),(HBz1_2.out.other (a:=⟨w.heap.size,2,none⟩) _ (fun h=>HNB0Bz1.out h.symm))⟩ ?_
 rintro w3 ⟨e3,bB0_3,bB1_3,bBz1_3⟩
 have HX3:=Hi35 e3;have HB0_3:=Hi35 bB0_3;have HB1_3:=Hi35 bB1_3;have HBz1_3:=Hi35 bBz1_3
 clear e3 bB0_3 bB1_3 bBz1_3 c0_2 f0_2
 have c0_0:=HB0_3.out.cell 0 rfl
 have c0_1:=HB0_3.out.cell 1 rfl
 have c0_2:=HB0_3.out.cell 2 rfl
 go_wp2_with fail
 refine (solve_c { P with C:=fun _=>0 } _ _ va q _ (HG.out.ext (HX3.out)) (pm_obj (HPM.out.ext HX3.out) (Rd.blk HBz1_3.out (Nat.le_refl _) (cap_le (by omega)) (zero_row HCBz1.out))) SZ (by have:=hn;show P.n<=1000;omega) (by have:=hm;show P.m<=1000;omega) hq1 (by omega) HQA.out).mono ?_;rintro e w4 ⟨v_,rfl,e4,sv_⟩
 have HX4:=Hi35 (HX3.out.trans e4)
 have HB1_4:=Hi35 (HB1_3.out.ext e4)
 have HBz1_4:=Hi35 (HBz1_3.out.ext e4)
 clear e4 c0_0 c0_1 c0_2
 obtain ⟨kd1,vl1,a1_,m1_,c1_,d1_,n1_,f1_,g1_,h1_,k1_,rfl⟩:=sv_.shape;have HSV1_4:=Hi35 sv_;clear sv_
 go_upto_region 6 with fail
 refine wp_name (fun W=>Ext w W/\Blk W (w.heap.size+1) (#[.slice none 0 0]) 40/\SolV ({ P with C:=fun _=>0 }) q w3 W (.agg #[.int .i64 kd1,.string vl1,.slice a1_ m1_ c1_,.slice d1_ n1_ f1_,.slice g1_ h1_ k1_])/\Blk W (w4.heap.size) (#[.int .i64 kd1,.string vl1,.slice a1_ m1_ c1_,.slice d1_ n1_ f1_,.slice g1_ h1_ k1_]) 42) ⟨(HX4.out.alloc _),(HB1_4.out.alloc _),(HSV1_4.out.alloc _),(Blk.nw (#[.int .i64 kd1,.string vl1,.slice a1_ m1_ c1_,.slice d1_ n1_ f1_,.slice g1_ h1_ k1_]) 42)⟩ ?_
 rintro w5 ⟨e5,bB1_5,bSV1_5,bB2_5⟩
 have HX5:=Hi35 e5;have HB1_5:=Hi35 bB1_5;have HSV1_5:=Hi35 bSV1_5;have HB2_5:=Hi35 bB2_5
 have HGEB2:Hid (w.heap.size<=w4.heap.size):=Hi35 (HX4.out.size)
 clear e5 bB1_5 bSV1_5 bB2_5
 have c2_0:=HB2_5.out.cell 0 rfl
 have c2_1:=HB2_5.out.cell 1 rfl
 have c2_2:=HB2_5.out.cell 2 rfl
 have c2_3:=HB2_5.out.cell 3 rfl
 have c2_4:=HB2_5.out.cell 4 rfl
 go_wp2_with fail
 refine (short_sol (HG.out.ext (HX5.out)) (HSV1_5.out) hq2 (by show P.n<=1000;omega) (by show P.m<=1000;omega)).mono ?_;rintro e w6 ⟨rfl,e6⟩
 have HX6:=Hi35 (HX5.out.trans e6)
 have HB1_6:=Hi35 (HB1_5.out.ext e6)
 have HSV1_6:=Hi35 (HSV1_5.out.ext e6)
 have HB2_6:=Hi35 (HB2_5.out.ext e6)
 clear e6 c2_0 c2_1 c2_2 c2_3 c2_4
 go_upto_region 8 with fail
 rcases HSV1_6.out.kds with rfl|rfl|rfl
 ·have c2_0:=HB2_6.out.cell 0 rfl
  have c2_2:=HB2_6.out.cell 2 rfl
  have c1_0:=HB1_6.out.cell 0 rfl
  have f1_0:=HB1_6.out.free 0
  go_wp2_with fail
  refine wp_name (fun W=>Ext w W/\Blk W (w.heap.size+1) (#[.slice none 0 0]) 40/\SolV ({ P with C:=fun _=>0 }) q w3 W (.agg #[.int .i64 1,.string vl1,.slice a1_ m1_ c1_,.slice d1_ n1_ f1_,.slice g1_ h1_ k1_])) ⟨(HX6.out.setCell (HGEB1.out) _),(HB1_6.out.set 0 (.slice none 0 0)),(HSV1_6.out.other (a:=⟨w.heap.size+1,0,none⟩) _ ((fm_lt HB1_3.out.lt)))⟩ ?_
  rintro w7 ⟨e7,bB1_7,bSV1_7⟩
  have HX7:=Hi35 e7;have HB1_7:=Hi35 bB1_7;have HSV1_7:=Hi35 bSV1_7
  clear e7 bB1_7 bSV1_7 c2_0 c2_2 c1_0 f1_0
  have gB1_0:=HB1_7.out.cell 0 rfl
  refine bodyPost_ret (v:=.tuple #[.slice a1_ m1_ c1_,.agg #[.slice none 0 0],.bool true,.int .i64 0]) (by simp [results,Tryz.results20,go_sem,gB1_0]) rfl (feaz_b HX7.out (HSV1_7.out.mono HX3.out))
 ·have c2_0:=HB2_6.out.cell 0 rfl
  go_wp2_with fail
  clear c2_0
  refine region_e [.val (.pointer (some ⟨w4.heap.size,3,none⟩)),.val (.agg #[.slice d1_ n1_ f1_]),.val (.slice none 0 0),.eff,.val (.bool false),.val (.int .i64 0)] (fun L g W=>(if L 3=true then Blk W (w.heap.size+1) (#[.slice d1_ n1_ f1_]) 40 else Blk W (w.heap.size+1) (#[.slice none 0 0]) 40)) (S:=fun k=>k=w.heap.size+1) (by kernel_rfl) (by kernel_rfl) (by kernel_rfl) (Mv.refl HX6.out (fun k h=>(fun e=>Nat.le_trans (show w.heap.size<=w.heap.size+1 from HGEB1.out) (Nat.le_of_eq e.symm)) h)) ?_ ?_ ?_ ?_ (fun gv_ w7 hm_ he_=>?_)
  ·exact fun gz_=>(by rw [if_neg (by decide)];exact HB1_6.out.drew)
  ·exact fun L g W W1 h e=>ite_ext (h) (fun h=>h.ext e) (fun h=>h.ext e)
  ·intro i v L g W hi h
   have n3_:i≠3:=fun e=>by subst e;exact absurd (show false=true from hi) (by decide)
   simp only [up_ne n3_,ug_ne n3_];exact h
  ·skip
   refine RV (fun A_ hs_ K_ hK_=>?_) ?_;· have q7_:=hs_.is 7 (.pointer (some ⟨w4.heap.size,0,none⟩));go_simp;exact fin_ hK_
   refine RV (fun A_ hs_ K_ hK_=>?_) ?_;· have q27_:=hs_.val 0;have c2_3:=(hs_.mv.blk HB2_6.out (fun h=>((show w4.heap.size≠w.heap.size+1 from Nat.ne_of_gt HB1_4.out.lt)) h)).cell 3 rfl;go_simp;exact fin_ hK_
   refine RV (fun A_ hs_ K_ hK_=>?_) ?_;· go_simp;exact fin_ hK_
   refine RnEL.cons (fun L_ g_ A_ W_ hs_=>?_) ?_
   ·have q3_:=hs_.is 3 (.pointer (some ⟨w.heap.size+1,0,none⟩));have q28_:=hs_.val 1;refine RnE.eff fun K_ hK_=>?_;have n_:=hs_.not;have e_:=hs_.e;rw [if_neg (by rw [n_];decide)] at e_;have c_0:=e_.cell 0 rfl;have f_0:=e_.free 0;have HE_:=Hi35 e_;have HM_:=Hi35 hs_.mv;have HEE_:=Hi35 hs_.e;clear e_ n_;go_simp;exact hK_.out undef _ (HM_.out.setCell (Or.inl (rfl)) _) (by rw [up_at,if_pos rfl];exact (Blk.cast (HE_.out.set 0 _) (by simp only [List.setIfInBounds_toArray,List.set_cons_zero,List.set_cons_succ])))
   refine RV (fun A_ hs_ K_ hK_=>?_) ?_;· go_simp;exact fin_ hK_
   refine RV (fun A_ hs_ K_ hK_=>?_) ?_;· go_simp;exact fin_ hK_
   exact RnEL.nil
  simp only [fse,Ke.value,puts,Act.put,List.setIfInBounds_toArray,List.set_cons_zero,List.set_cons_succ]
  have HX7:Hid (Ext w w7):=Hi35 hm_.ext
  have HB1_7:Hid (Blk w7 (w.heap.size+1) (#[.slice d1_ n1_ f1_]) 40):=Hi35 (by have h_:=he_;rw [if_pos rfl] at h_;exact h_)
  have HSV1_7:=Hi35 (HSV1_6.out.mv hm_ (fun i hi h=>(((fm_lt HB1_3.out.lt)) i hi) h))
  clear hm_ he_
  go_wp2_with fail
  have gB1_0:=HB1_7.out.cell 0 rfl
  refine bodyPost_ret (v:=.tuple #[.slice none 0 0,.agg #[.slice d1_ n1_ f1_],.bool false,.int .i64 0]) (by simp [results,Tryz.results20,go_sem,gB1_0]) rfl (feaz_i HX7.out (HSV1_7.out.mono HX3.out))
 ·exact absurd HSV1_6.out.fall (fun ⟨_,_,d,h,_⟩=>no_worth d h.worth)
section
variable {P:LP} {X w:World} {vr vc v:Value} {va:Nat->Value}
variable (g:Gd w) (hP:PM P w vr vc va) (S:Sm P)
include g hP S
theorem feas_sm:Calls Tryz.prog 20 #[.agg #[.int .i64 (P.n:Int),vr,vc]] w (FeazP P 17 w) :=
 pfeas_c P vr vc va 17 w g hP S.zero.szd S.pq (by have:=S.n;omega) (by have:=S.m;omega) (by decide) (by decide) S.qa17
end
section
variable {P:LP} {v u:Rat} {x y d z:Nat->Rat}
def RSh (kd:Int) (val:ByteArray) (v:Value):Prop:=∃ o1 m1 c1 o2 m2 c2 o3 m3 c3,v = .agg #[.int .i64 kd,.string val,.slice o1 m1 c1,.slice o2 m2 c2,.slice o3 m3 c3]
theorem SolV.way {q:Nat} {X w:World} {r:Value} (h:SolV P q X w r):(∃ v x y,Best P v x y/\QB q v/\RSh 1 (qs v) r)∨(∃ y,Refutes P y/\RSh 2 ⟨#[]⟩ r)∨(∃ x d,Falls P x d/\RSh 3 ⟨#[]⟩ r):=by
 rcases h with ⟨val,x,y,vp,vd,rfl,h2,h3,h4,h5,h6,h7⟩|⟨y,vd,rfl,h2,h3,h4⟩|⟨x,d,vp,vd,rfl,h2,h3,h4,h5,h6⟩
 ·obtain ⟨a,c,rfl⟩:=h6.isl;obtain ⟨a',c',rfl⟩:=h7.isl
  exact Or.inl ⟨val,x,y,h2,h3,_,_,_,_,_,_,_,_,_,rfl⟩
 ·obtain ⟨a,c,rfl⟩:=h4.isl
  exact Or.inr (Or.inl ⟨y,h2,_,_,_,_,_,_,_,_,_,rfl⟩)
 ·obtain ⟨a,c,rfl⟩:=h5.isl;obtain ⟨a',c',rfl⟩:=h6.isl
  exact Or.inr (Or.inr ⟨x,d,h2,_,_,_,_,_,_,_,_,_,rfl⟩)
end
theorem fil_none {is:Nat->Bool} {m:Nat} (h:∀ k,k<m->is k=false):(fil is m).length=0:=by
 rw [fil,List.length_eq_zero_iff,List.filter_eq_nil_iff]
 intro k hk;rw [h k (List.mem_range.1 hk)];decide
theorem vio_none {P:LP} {x:Nat->Rat} (h:P.feas x):∀ k,k<P.m->vio P x k=false:=fun k hk=>decide_eq_false (by have:=h k hk;grind)
theorem feasible_walk (vv:Int) (m wcap:Nat) (wo:Option Addr) (c:Nat->Nat->Int) (o0 o1 o2:Int) (w:World) (g:Gd w) (hpl:PlOk w vv m wo c o0 o1 o2):Calls Tryz.prog 5 #[.agg #[.int .u8 vv,.slice wo m wcap,.int .i8 o0,.int .i8 o1,.int .i8 o2]] w (Ret w (.bool true)):=by
 have HG:=Hi35 g
 have HPL:=Hi35 hpl
 clear g hpl
 go_enter Tryz.func5,Tryz.ntmps5
 by_cases hm6:m<=6
 ·have HM6:=Hi35 hm6;have HFT:Hid (decide (m<=6)=true):=Hi35 (decide_eq_true hm6)
  go_wp2_with fail
  refine (known7_c _ (HG.out.ext (((Ext.refl w).alloc _)))).mono ?_;rintro e w1 ⟨rfl,e1⟩
  have HX1:Hid (Ext w w1):=Hi35 (((Ext.refl w).alloc _).trans e1)
  have HB0_1:Hid (Blk w1 (w.heap.size) (#[.int .u8 vv,.slice wo m wcap,.int .i8 o0,.int .i8 o1,.int .i8 o2]) 26):=Hi35 (((Blk.nw (#[.int .u8 vv,.slice wo m wcap,.int .i8 o0,.int .i8 o1,.int .i8 o2]) 26)).ext e1)
  have HGEB0:Hid (w.heap.size<=w.heap.size):=Hi35 (Nat.le_refl _)
  clear e1
  have c0_0:=HB0_1.out.cell 0 rfl
  have c0_1:=HB0_1.out.cell 1 rfl
  have c0_2:=HB0_1.out.cell 2 rfl
  have c0_3:=HB0_1.out.cell 3 rfl
  have c0_4:=HB0_1.out.cell 4 rfl
  go_wp2_with fail
  refine ((HFT.out▸fits7_c vv m wcap wo o0 o1 o2 _)).mono ?_;rintro e w2 ⟨rfl,e2⟩
  have HX2:=Hi35 (HX1.out.trans e2)
  have HB0_2:=Hi35 (HB0_1.out.ext e2)
  clear e2 c0_0 c0_1 c0_2 c0_3 c0_4
  have c0_0:=HB0_2.out.cell 0 rfl
  have c0_1:=HB0_2.out.cell 1 rfl
  have c0_2:=HB0_2.out.cell 2 rfl
  have c0_3:=HB0_2.out.cell 3 rfl
  have c0_4:=HB0_2.out.cell 4 rfl
  go_wp2_with fail
  refine (make7 (HPL.out.ext HX2.out) (HG.out.ext (HX2.out)) HM6.out).mono ?_;rintro e w3 ⟨P,ro,rcap,co,ccap,va,rfl,e3,pm_,sm_,pe_,s3_⟩
  have HX3:=Hi35 (HX2.out.trans e3)
  clear e3 c0_0 c0_1 c0_2 c0_3 c0_4
  have HPM:=Hi35 pm_;have HSM:=Hi35 sm_;have HPE:=Hi35 pe_;have HS3:=Hi35 s3_;clear pm_ sm_ pe_ s3_
  have HM1_3:Hid (Fr w3 w3):=Hi35 (Fr.refl _)
  go_upto_region 4 with fail
  have HGFM1B1:Hid (w3.heap.size<=w3.heap.size):=Hi35 (Nat.le_trans HM1_3.out.out.size (by first|omega|(simp only [];omega)|(simp;omega)))
  refine wp_name (fun W=>Ext w W/\Fr w3 W/\Blk W (w3.heap.size) (#[.int .i64 (P.n:Int),.slice ro P.m rcap,.slice co P.n ccap]) 32) ⟨(HX3.out.alloc _),(HM1_3.out.alloc _),(Blk.nw (#[.int .i64 (P.n:Int),.slice ro P.m rcap,.slice co P.n ccap]) 32)⟩ ?_
  rintro w4 ⟨e4,bM1_4,bB1_4⟩
  have HX4:=Hi35 e4;have HM1_4:=Hi35 bM1_4;have HB1_4:=Hi35 bB1_4
  have HGEB1:Hid (w.heap.size<=w3.heap.size):=Hi35 (HX3.out.size)
  clear e4 bM1_4 bB1_4
  have c1_0:=HB1_4.out.cell 0 rfl
  have c1_1:=HB1_4.out.cell 1 rfl
  have c1_2:=HB1_4.out.cell 2 rfl
  go_wp2_with fail
  refine (feas_sm (HG.out.ext (HX4.out)) (HPM.out.ext HM1_4.out.out) HSM.out).mono ?_;rintro e w5 ⟨e5,⟨vp,x_,rfl,fz_,qx_,nx_⟩|⟨vd,y_,rfl,rf_,qy_,ny_⟩⟩
  ·have HX5:=Hi35 (HX4.out.trans e5)
   have HM1_5:=Hi35 (HM1_4.out.ext e5)
   have HB1_5:=Hi35 (HB1_4.out.ext e5)
   clear e5 c1_0 c1_1 c1_2
   have HTP:=Hi35 (TxL.qs nx_ qx_ (by decide) (by have:=HSM.out.n;omega));have HFZ:=Hi35 fz_;have HQX:=Hi35 qx_;have HRX:=Hi35 (nx_.rd (cap_le (by have:=HSM.out.n;omega)))
   obtain ⟨op,cp,rfl⟩:=nx_.isl
   clear fz_ qx_ nx_
   have HMF_5:Hid (Fr w5 w5):=Hi35 (Fr.refl _)
   go_upto_region 5 with fail
   have HGFM1B2:Hid (w3.heap.size<=w5.heap.size):=Hi35 (Nat.le_trans HM1_5.out.out.size (by first|omega|(simp only [];omega)|(simp;omega)))
   have HGFMFB2:Hid (w5.heap.size<=w5.heap.size):=Hi35 (Nat.le_trans HMF_5.out.out.size (by first|omega|(simp only [];omega)|(simp;omega)))
   refine wp_name (fun W=>Ext w W/\Fr w3 W/\Blk W (w3.heap.size) (#[.int .i64 (P.n:Int),.slice ro P.m rcap,.slice co P.n ccap]) 32/\Fr w5 W/\Blk W (w5.heap.size) (#[.slice none 0 0]) 40) ⟨(HX5.out.alloc _),(HM1_5.out.alloc _),(HB1_5.out.alloc _),(HMF_5.out.alloc _),(Blk.nw (#[.slice none 0 0]) 40)⟩ ?_
   rintro w6 ⟨e6,bM1_6,bB1_6,bMF_6,bB2_6⟩
   have HX6:=Hi35 e6;have HM1_6:=Hi35 bM1_6;have HB1_6:=Hi35 bB1_6;have HMF_6:=Hi35 bMF_6;have HB2_6:=Hi35 bB2_6
   have HGEB2:Hid (w.heap.size<=w5.heap.size):=Hi35 (HX5.out.size)
   clear e6 bM1_6 bB1_6 bMF_6 bB2_6
   have c1_0:=HB1_6.out.cell 0 rfl
   have c1_1:=HB1_6.out.cell 1 rfl
   have c1_2:=HB1_6.out.cell 2 rfl
   go_wp2_with fail
   refine (min_sm (HG.out.ext (HX6.out)) (HPM.out.ext HM1_6.out.out) HSM.out).mono ?_;rintro e w7 ⟨v_,rfl,e7,sv_⟩;rcases sv_.way with ⟨z_,u_,i_,b_,_,s_⟩|⟨u_,b_,s_⟩|⟨u_,i_,b_,s_⟩ <;> clear sv_
   ·have HX7:=Hi35 (HX6.out.trans e7)
    have HM1_7:=Hi35 (HM1_6.out.ext e7)
    have HB1_7:=Hi35 (HB1_6.out.ext e7)
    have HMF_7:=Hi35 (HMF_6.out.ext e7)
    have HB2_7:=Hi35 (HB2_6.out.ext e7)
    clear e7 c1_0 c1_1 c1_2
    obtain ⟨o1,m1,d1,o2,m2,d2,o3,m3,d3,rfl⟩:=s_;clear b_
    go_upto_region 6 with fail
    have HGFM1B3:Hid (w3.heap.size<=w7.heap.size):=Hi35 (Nat.le_trans HM1_7.out.out.size (by first|omega|(simp only [];omega)|(simp;omega)))
    have HGFMFB3:Hid (w5.heap.size<=w7.heap.size):=Hi35 (Nat.le_trans HMF_7.out.out.size (by first|omega|(simp only [];omega)|(simp;omega)))
    refine wp_name (fun W=>Ext w W/\Fr w3 W/\Blk W (w3.heap.size) (#[.int .i64 (P.n:Int),.slice ro P.m rcap,.slice co P.n ccap]) 32/\Fr w5 W/\Blk W (w5.heap.size) (#[.slice none 0 0]) 40/\Blk W (w7.heap.size) (#[.int .i64 1,.string (qs z_),.slice o1 m1 d1,.slice o2 m2 d2,.slice o3 m3 d3]) 42) ⟨(HX7.out.alloc _),(HM1_7.out.alloc _),(HB1_7.out.alloc _),(HMF_7.out.alloc _),(HB2_7.out.alloc _),(Blk.nw (#[.int .i64 1,.string (qs z_),.slice o1 m1 d1,.slice o2 m2 d2,.slice o3 m3 d3]) 42)⟩ ?_
    rintro w8 ⟨e8,bM1_8,bB1_8,bMF_8,bB2_8,bB3_8⟩
    have HX8:=Hi35 e8;have HM1_8:=Hi35 bM1_8;have HB1_8:=Hi35 bB1_8;have HMF_8:=Hi35 bMF_8;have HB2_8:=Hi35 bB2_8;have HB3_8:=Hi35 bB3_8
    have HGEB3:Hid (w.heap.size<=w7.heap.size):=Hi35 (HX7.out.size)
    clear e8 bM1_8 bB1_8 bMF_8 bB2_8 bB3_8
    have c3_0:=HB3_8.out.cell 0 rfl
    have c2_0:=HB2_8.out.cell 0 rfl
    have c1_0:=HB1_8.out.cell 0 rfl
    go_wp2_with fail
    refine (((lerr_qs (fun j hj=>(HQX.out j hj).mono (by decide)))▸list7_c (HG.out.ext (HX8.out)) (HTP.out.rs.ext HMF_8.out.out) HTP.out.sz (by have:=HTP.out.le;omega))).mono ?_;rintro e w9 ⟨rfl,e9⟩
    have HX9:=Hi35 (HX8.out.trans e9)
    have HM1_9:=Hi35 (HM1_8.out.ext e9)
    have HB1_9:=Hi35 (HB1_8.out.ext e9)
    have HMF_9:=Hi35 (HMF_8.out.ext e9)
    clear e9 c3_0 c2_0 c1_0
    have c1_1:=HB1_9.out.cell 1 rfl
    go_wp2_with fail
    refine (viol7_c P _ _ va 2 _ (HG.out.ext (HX9.out)) (HPM.out.ext HM1_9.out.out) _ x_ 17 (HRX.out.ext HMF_9.out.out) HQX.out (by have:=HSM.out.n;omega) (by decide) HSM.out.pq (by have:=HSM.out.n;omega) (by have:=HSM.out.m;omega) HSM.out.qa HSM.out.qb).mono ?_;rintro e w10 ⟨v_,rfl,e10,fl_⟩
    have HX10:=Hi35 (HX9.out.trans e10)
    have HM1_10:=Hi35 (HM1_9.out.ext e10)
    have HMF_10:=Hi35 (HMF_9.out.ext e10)
    clear e10 c1_1
    obtain ⟨la,lc,rfl⟩:=fl_.lsl;clear fl_;rw [fil_none (vio_none HFZ.out)]
    go_wp2
    go_ret
    exact ⟨rfl,HX10.out⟩
   ·exact (b_.none _ HFZ.out).elim
   ·have HX7:=Hi35 (HX6.out.trans e7)
    have HM1_7:=Hi35 (HM1_6.out.ext e7)
    have HB1_7:=Hi35 (HB1_6.out.ext e7)
    have HMF_7:=Hi35 (HMF_6.out.ext e7)
    have HB2_7:=Hi35 (HB2_6.out.ext e7)
    clear e7 c1_0 c1_1 c1_2
    obtain ⟨o1,m1,d1,o2,m2,d2,o3,m3,d3,rfl⟩:=s_;clear b_
    go_upto_region 6 with fail
    have HGFM1B3:Hid (w3.heap.size<=w7.heap.size):=Hi35 (Nat.le_trans HM1_7.out.out.size (by first|omega|(simp only [];omega)|(simp;omega)))
    have HGFMFB3:Hid (w5.heap.size<=w7.heap.size):=Hi35 (Nat.le_trans HMF_7.out.out.size (by first|omega|(simp only [];omega)|(simp;omega)))
    refine wp_name (fun W=>Ext w W/\Fr w3 W/\Blk W (w3.heap.size) (#[.int .i64 (P.n:Int),.slice ro P.m rcap,.slice co P.n ccap]) 32/\Fr w5 W/\Blk W (w5.heap.size) (#[.slice none 0 0]) 40/\Blk W (w7.heap.size) (#[.int .i64 3,.string ⟨#[]⟩,.slice o1 m1 d1,.slice o2 m2 d2,.slice o3 m3 d3]) 42) ⟨(HX7.out.alloc _),(HM1_7.out.alloc _),(HB1_7.out.alloc _),(HMF_7.out.alloc _),(HB2_7.out.alloc _),(Blk.nw (#[.int .i64 3,.string ⟨#[]⟩,.slice o1 m1 d1,.slice o2 m2 d2,.slice o3 m3 d3]) 42)⟩ ?_
    rintro w8 ⟨e8,bM1_8,bB1_8,bMF_8,bB2_8,bB3_8⟩
    have HX8:=Hi35 e8;have HM1_8:=Hi35 bM1_8;have HB1_8:=Hi35 bB1_8;have HMF_8:=Hi35 bMF_8;have HB2_8:=Hi35 bB2_8;have HB3_8:=Hi35 bB3_8
    have HGEB3:Hid (w.heap.size<=w7.heap.size):=Hi35 (HX7.out.size)
    clear e8 bM1_8 bB1_8 bMF_8 bB2_8 bB3_8
    have c3_0:=HB3_8.out.cell 0 rfl
    have c2_0:=HB2_8.out.cell 0 rfl
    have c1_0:=HB1_8.out.cell 0 rfl
    go_wp2_with fail
    refine (((lerr_qs (fun j hj=>(HQX.out j hj).mono (by decide)))▸list7_c (HG.out.ext (HX8.out)) (HTP.out.rs.ext HMF_8.out.out) HTP.out.sz (by have:=HTP.out.le;omega))).mono ?_;rintro e w9 ⟨rfl,e9⟩
    have HX9:=Hi35 (HX8.out.trans e9)
    have HM1_9:=Hi35 (HM1_8.out.ext e9)
    have HB1_9:=Hi35 (HB1_8.out.ext e9)
    have HMF_9:=Hi35 (HMF_8.out.ext e9)
    clear e9 c3_0 c2_0 c1_0
    have c1_1:=HB1_9.out.cell 1 rfl
    go_wp2_with fail
    refine (viol7_c P _ _ va 2 _ (HG.out.ext (HX9.out)) (HPM.out.ext HM1_9.out.out) _ x_ 17 (HRX.out.ext HMF_9.out.out) HQX.out (by have:=HSM.out.n;omega) (by decide) HSM.out.pq (by have:=HSM.out.n;omega) (by have:=HSM.out.m;omega) HSM.out.qa HSM.out.qb).mono ?_;rintro e w10 ⟨v_,rfl,e10,fl_⟩
    have HX10:=Hi35 (HX9.out.trans e10)
    have HM1_10:=Hi35 (HM1_9.out.ext e10)
    have HMF_10:=Hi35 (HMF_9.out.ext e10)
    clear e10 c1_1
    obtain ⟨la,lc,rfl⟩:=fl_.lsl;clear fl_;rw [fil_none (vio_none HFZ.out)]
    go_wp2
    go_ret
    exact ⟨rfl,HX10.out⟩
  ·have HX5:=Hi35 (HX4.out.trans e5)
   have HM1_5:=Hi35 (HM1_4.out.ext e5)
   have HB1_5:=Hi35 (HB1_4.out.ext e5)
   clear e5 c1_0 c1_1 c1_2
   have HTD:=Hi35 (TxL.qs ny_ qy_ (by decide) (by have:=HSM.out.m;omega));have HRF:=Hi35 rf_;have HQY:=Hi35 qy_
   obtain ⟨od,cd,rfl⟩:=ny_.isl
   clear rf_ qy_ ny_
   have HMF_5:Hid (Fr w5 w5):=Hi35 (Fr.refl _)
   go_upto_region 5 with fail
   have HGFM1B2:Hid (w3.heap.size<=w5.heap.size):=Hi35 (Nat.le_trans HM1_5.out.out.size (by first|omega|(simp only [];omega)|(simp;omega)))
   have HGFMFB2:Hid (w5.heap.size<=w5.heap.size):=Hi35 (Nat.le_trans HMF_5.out.out.size (by first|omega|(simp only [];omega)|(simp;omega)))
   refine wp_name (fun W=>Ext w W/\Fr w3 W/\Blk W (w3.heap.size) (#[.int .i64 (P.n:Int),.slice ro P.m rcap,.slice co P.n ccap]) 32/\Fr w5 W/\Blk W (w5.heap.size) (#[.slice od P.m cd]) 40) ⟨(HX5.out.alloc _),(HM1_5.out.alloc _),(HB1_5.out.alloc _),(HMF_5.out.alloc _),(Blk.nw (#[.slice od P.m cd]) 40)⟩ ?_
   rintro w6 ⟨e6,bM1_6,bB1_6,bMF_6,bB2_6⟩
   have HX6:=Hi35 e6;have HM1_6:=Hi35 bM1_6;have HB1_6:=Hi35 bB1_6;have HMF_6:=Hi35 bMF_6;have HB2_6:=Hi35 bB2_6
   have HGEB2:Hid (w.heap.size<=w5.heap.size):=Hi35 (HX5.out.size)
   clear e6 bM1_6 bB1_6 bMF_6 bB2_6
   have c1_0:=HB1_6.out.cell 0 rfl
   have c1_1:=HB1_6.out.cell 1 rfl
   have c1_2:=HB1_6.out.cell 2 rfl
   go_wp2_with fail
   refine (min_sm (HG.out.ext (HX6.out)) (HPM.out.ext HM1_6.out.out) HSM.out).mono ?_;rintro e w7 ⟨v_,rfl,e7,sv_⟩;rcases sv_.way with ⟨z_,u_,i_,b_,_,s_⟩|⟨u_,b_,s_⟩|⟨u_,i_,b_,s_⟩ <;> clear sv_
   ·exact (HRF.out.none _ b_.feas).elim
   ·have HX7:=Hi35 (HX6.out.trans e7)
    have HM1_7:=Hi35 (HM1_6.out.ext e7)
    have HB1_7:=Hi35 (HB1_6.out.ext e7)
    have HMF_7:=Hi35 (HMF_6.out.ext e7)
    have HB2_7:=Hi35 (HB2_6.out.ext e7)
    clear e7 c1_0 c1_1 c1_2
    obtain ⟨o1,m1,d1,o2,m2,d2,o3,m3,d3,rfl⟩:=s_;clear b_
    go_upto_region 6 with fail
    have HGFM1B3:Hid (w3.heap.size<=w7.heap.size):=Hi35 (Nat.le_trans HM1_7.out.out.size (by first|omega|(simp only [];omega)|(simp;omega)))
    have HGFMFB3:Hid (w5.heap.size<=w7.heap.size):=Hi35 (Nat.le_trans HMF_7.out.out.size (by first|omega|(simp only [];omega)|(simp;omega)))
    refine wp_name (fun W=>Ext w W/\Fr w3 W/\Blk W (w3.heap.size) (#[.int .i64 (P.n:Int),.slice ro P.m rcap,.slice co P.n ccap]) 32/\Fr w5 W/\Blk W (w5.heap.size) (#[.slice od P.m cd]) 40/\Blk W (w7.heap.size) (#[.int .i64 2,.string ⟨#[]⟩,.slice o1 m1 d1,.slice o2 m2 d2,.slice o3 m3 d3]) 42) ⟨(HX7.out.alloc _),(HM1_7.out.alloc _),(HB1_7.out.alloc _),(HMF_7.out.alloc _),(HB2_7.out.alloc _),(Blk.nw (#[.int .i64 2,.string ⟨#[]⟩,.slice o1 m1 d1,.slice o2 m2 d2,.slice o3 m3 d3]) 42)⟩ ?_
    rintro w8 ⟨e8,bM1_8,bB1_8,bMF_8,bB2_8,bB3_8⟩
    have HX8:=Hi35 e8;have HM1_8:=Hi35 bM1_8;have HB1_8:=Hi35 bB1_8;have HMF_8:=Hi35 bMF_8;have HB2_8:=Hi35 bB2_8;have HB3_8:=Hi35 bB3_8
    have HGEB3:Hid (w.heap.size<=w7.heap.size):=Hi35 (HX7.out.size)
    clear e8 bM1_8 bB1_8 bMF_8 bB2_8 bB3_8
    have c3_0:=HB3_8.out.cell 0 rfl
    have c1_0:=HB1_8.out.cell 0 rfl
    have c1_1:=HB1_8.out.cell 1 rfl
    have c1_2:=HB1_8.out.cell 2 rfl
    have c2_0:=HB2_8.out.cell 0 rfl
    go_wp2_with fail
    refine (((vfy_inf HRF.out HQY.out (by decide))▸lverify_sm (HG.out.ext (HX8.out)) (HPM.out.ext HM1_8.out.out) HSM.out 2 ⟨#[]⟩ (by decide) (TxL.nil _) (HTD.out.ext HMF_8.out.out) (TxL.nil _))).mono ?_;rintro e w9 ⟨rfl,e9⟩
    have HX9:=Hi35 (HX8.out.trans e9)
    have HM1_9:=Hi35 (HM1_8.out.ext e9)
    have HB1_9:=Hi35 (HB1_8.out.ext e9)
    have HMF_9:=Hi35 (HMF_8.out.ext e9)
    clear e9 c3_0 c1_0 c1_1 c1_2 c2_0
    go_wp2
    go_ret
    exact ⟨rfl,HX9.out⟩
   ·exact (HRF.out.none _ b_.feas).elim
 ·have HFT:Hid (decide (m<=6)=false):=Hi35 (decide_eq_false hm6)
  go_wp2_with fail
  refine (known7_c _ (HG.out.ext (((Ext.refl w).alloc _)))).mono ?_;rintro e w1 ⟨rfl,e1⟩
  have HX1:Hid (Ext w w1):=Hi35 (((Ext.refl w).alloc _).trans e1)
  have HB0_1:Hid (Blk w1 (w.heap.size) (#[.int .u8 vv,.slice wo m wcap,.int .i8 o0,.int .i8 o1,.int .i8 o2]) 26):=Hi35 (((Blk.nw (#[.int .u8 vv,.slice wo m wcap,.int .i8 o0,.int .i8 o1,.int .i8 o2]) 26)).ext e1)
  have HGEB0:Hid (w.heap.size<=w.heap.size):=Hi35 (Nat.le_refl _)
  clear e1
  have c0_0:=HB0_1.out.cell 0 rfl
  have c0_1:=HB0_1.out.cell 1 rfl
  have c0_2:=HB0_1.out.cell 2 rfl
  have c0_3:=HB0_1.out.cell 3 rfl
  have c0_4:=HB0_1.out.cell 4 rfl
  go_wp2_with fail
  refine ((HFT.out▸fits7_c vv m wcap wo o0 o1 o2 _)).mono ?_;rintro e w2 ⟨rfl,e2⟩
  have HX2:=Hi35 (HX1.out.trans e2)
  have HB0_2:=Hi35 (HB0_1.out.ext e2)
  clear e2 c0_0 c0_1 c0_2 c0_3 c0_4
  go_wp2_with fail
  refine (known7_c _ (HG.out.ext (HX2.out))).mono ?_;rintro e w3 ⟨rfl,e3⟩
  have HX3:=Hi35 (HX2.out.trans e3)
  have HB0_3:=Hi35 (HB0_2.out.ext e3)
  clear e3
  go_wp2
  go_ret
  exact ⟨rfl,HX3.out⟩
end Go.Proofs.YtcenemaadnlknaaGreatDoor
