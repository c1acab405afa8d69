/- Part 53 of the proof: S20, S36, S41, S46. -/
import Derived.Test.YtcenemaadnlknaaGreatDoorQPB49
import Derived.Test.YtcenemaadnlknaaGreatDoorQPB52
set_option maxRecDepth 100000
set_option maxHeartbeats 2000000
set_option linter.unusedSimpArgs false
set_option linter.unusedVariables false
theorem Go.Proofs.YtcenemaadnlknaaGreatDoor.Hi53 {p:Prop} (h:p):Go.RowKit.Hid p:=h
namespace Go.Proofs.YtcenemaadnlknaaGreatDoor
open Go Go.RowKit
theorem zero_row {n:Nat} {C:Array Value} (h:∀ j,j<n->C[j]?=some (.string ⟨#[48]⟩)):∀ j,j<n->C[j]?=some (.string (qs ((fun _=>(0:Rat)) j))):=fun j hj=>by rw [h j hj,qs_zero]
theorem no_worth {P:LP} (d:Nat->Rat):¬ LP.obj { P with C:=fun _=>0 } d<0:=by
 rw [LP.obj,smq_zero' (fun j _=>by show (0:Rat)*d j=0;rw [Rat.zero_mul])];decide
section
variable {P:LP} {q:Nat} {X Y w w':World} {v:Value}
theorem Blk.cast {W:World} {b:Nat} {cs cs':Array Value} {t:TypeId} (h:Blk W b cs t) (e:cs=cs'):Blk W b cs' t:=e▸h
end
def FeazP (P:LP) (q:Nat) (w:World) (e:Ending) (w':World):Prop:=Ext w w' /\
 ((∃ vp x,e = .returned (.tuple #[vp,.agg #[.slice none 0 0],.bool true,.int .i64 0])/\P.feas x/\(∀ j,j<P.n->QB q (x j))/\Nq w w' vp P.n x) ∨
  (∃ vd y,e = .returned (.tuple #[.slice none 0 0,.agg #[vd],.bool false,.int .i64 0])/\Refutes P y/\(∀ i,i<P.m->QB q (y i))/\Nq w w' vd P.m y))
theorem feaz_b {P:LP} {q:Nat} {w w':World} {vl:ByteArray} {u1 u2 u3:Value} (e:Ext w w') (h:SolV { P with C:=fun _=>0 } q w w' (.agg #[.int .i64 1,.string vl,u1,u2,u3])):FeazP P q w (.returned (.tuple #[u1,.agg #[.slice none 0 0],.bool true,.int .i64 0])) w':=by
 obtain ⟨val,x,y,_,hb,_,hx,_⟩:=h.best
 exact ⟨e,Or.inl ⟨u1,x,rfl,hb.feas,hx.1,hx.2⟩⟩
theorem feaz_i {P:LP} {q:Nat} {w w':World} {vl:ByteArray} {u1 u2 u3:Value} (e:Ext w w') (h:SolV { P with C:=fun _=>0 } q w w' (.agg #[.int .i64 2,.string vl,u1,u2,u3])):FeazP P q w (.returned (.tuple #[.slice none 0 0,.agg #[u2],.bool false,.int .i64 0])) w':=by
 obtain ⟨_,y,hb,hy,_⟩:=h.inf
 exact ⟨e,Or.inr ⟨u2,y,rfl,⟨hb.pos,hb.comb,hb.neg⟩,hy.1,hy.2⟩⟩
theorem pfeas_c (P:LP) (vr vc:Value) (va:Nat->Value) (q:Nat) (w:World) (g:Gd w) (hP:PM P w vr vc va) (SZ:Szd { P with C:=fun _=>0 } q) (Q:PQ P) (hn:P.n<=60) (hm:P.m<=300) (hq1:1<=q) (hq2:q<=200) (qa:∀ i,i<P.m->∀ j,j<P.n->QB q (P.A i j)):Calls Tryz.prog 20 #[.agg #[.int .i64 (P.n:Int),vr,vc]] w (FeazP P q w):=by
 have HG:=Hi53 g
 have HPM:=Hi53 hP
 have HQA:=Hi53 qa
 have HQP:=Hi53 Q
 clear g hP qa Q
 obtain ⟨ro,rcap,er_,_⟩:=HPM.out.rows
 obtain ⟨co,ccap,ec_,_⟩:=HPM.out.obj
 subst er_ ec_
 go_enter Tryz.func20,Tryz.ntmps20
 go_wp2_with fail
 refine (check_go P _ _ va _ (HG.out.ext ((((Ext.refl w).alloc _).alloc _))) (HPM.out.ext (((Ext.refl w).alloc _).alloc _)) HQP.out hn hm).mono ?_;rintro e w1 ⟨rfl,e1⟩
 have HX1:Hid (Ext w w1):=Hi53 ((((Ext.refl w).alloc _).alloc _).trans e1)
 have HB0_1:Hid (Blk w1 (w.heap.size) (#[.int .i64 (P.n:Int),.slice ro P.m rcap,.slice co P.n ccap]) 32):=Hi53 ((((Blk.new' (w:=_) (cs:=#[.int .i64 (P.n:Int),.slice ro P.m rcap,.slice co P.n ccap]) (t:=32) (by first|rfl|(simp only [World.size_alloc];done)|(simp only [World.size_alloc];omega)|simp)).alloc _)).ext e1)
 have HB1_1:Hid (Blk w1 (w.heap.size+1) (#[.slice none 0 0]) 40):=Hi53 (((Blk.new' (w:=_) (cs:=#[.slice none 0 0]) (t:=40) (by first|rfl|(simp only [World.size_alloc];done)|(simp only [World.size_alloc];omega)|simp))).ext e1)
 have HGEB0:Hid (w.heap.size<=w.heap.size):=Hi53 (Nat.le_refl _)
 have HGEB1:Hid (w.heap.size<=w.heap.size+1):=Hi53 (by omega)
 clear e1
 have c0_0:=HB0_1.out.cell 0 rfl
 go_wp2_with fail
 refine (zeros_c P.n (by omega) _).mono ?_;rintro e w2 ⟨kz1,CZ1,rfl,e2,g_,b_,c_⟩
 have HNB0Bz1:Hid (w.heap.size≠kz1):=Hi53 (Nat.ne_of_lt (Nat.lt_of_lt_of_le HB0_1.out.lt g_))
 have HNB1Bz1:Hid (w.heap.size+1≠kz1):=Hi53 (Nat.ne_of_lt (Nat.lt_of_lt_of_le HB1_1.out.lt g_))
 have HGEBz1:Hid (w.heap.size<=kz1):=Hi53 (Nat.le_trans HX1.out.size g_)
 have HX2:=Hi53 (HX1.out.trans e2)
 have HB0_2:=Hi53 (HB0_1.out.ext e2)
 have HB1_2:=Hi53 (HB1_1.out.ext e2)
 clear e2 c0_0
 have HBz1_2:=Hi53 b_;have HCBz1:=Hi53 c_;clear g_ b_ c_
 have c0_2:=HB0_2.out.cell 2 rfl
 have f0_2:=HB0_2.out.free 2
 go_upto_region 5 with fail
 refine wp_name (fun W=>Ext w W/\Blk W (w.heap.size) (#[.int .i64 (P.n:Int),.slice ro P.m rcap,.slice (some ⟨kz1,0,none⟩) P.n P.n]) 32/\Blk W (w.heap.size+1) (#[.slice none 0 0]) 40/\Blk W (kz1) (CZ1) 34) ⟨(HX2.out.setCell (HGEB0.out) _),(HB0_2.out.set 2 (.slice (some ⟨kz1,0,none⟩) P.n P.n)),(HB1_2.out.other (a:=⟨w.heap.size,2,none⟩) _ (by first|omega|(simp only [];omega)|(simp;omega))),(HBz1_2.out.other (a:=⟨w.heap.size,2,none⟩) _ (fun h=>HNB0Bz1.out h.symm))⟩ ?_
 rintro w3 ⟨e3,bB0_3,bB1_3,bBz1_3⟩
 have HX3:=Hi53 e3;have HB0_3:=Hi53 bB0_3;have HB1_3:=Hi53 bB1_3;have HBz1_3:=Hi53 bBz1_3
 clear e3 bB0_3 bB1_3 bBz1_3 c0_2 f0_2
 have c0_0:=HB0_3.out.cell 0 rfl
 have c0_1:=HB0_3.out.cell 1 rfl
 have c0_2:=HB0_3.out.cell 2 rfl
 go_wp2_with fail
 refine (solve_c { P with C:=fun _=>0 } _ _ va q _ (HG.out.ext (HX3.out)) (pm_obj (HPM.out.ext HX3.out) (Rd.blk HBz1_3.out (Nat.le_refl _) (cap_le (by omega)) (zero_row HCBz1.out))) SZ (by have:=hn;show P.n<=1000;omega) (by have:=hm;show P.m<=1000;omega) hq1 (by omega) HQA.out).mono ?_;rintro e w4 ⟨v_,rfl,e4,sv_⟩
 have HX4:=Hi53 (HX3.out.trans e4)
 have HB1_4:=Hi53 (HB1_3.out.ext e4)
 have HBz1_4:=Hi53 (HBz1_3.out.ext e4)
 clear e4 c0_0 c0_1 c0_2
 obtain ⟨kd1,vl1,a1_,m1_,c1_,d1_,n1_,f1_,g1_,h1_,k1_,rfl⟩:=sv_.shape;have HSV1_4:=Hi53 sv_;clear sv_
 go_upto_region 6 with fail
 refine wp_name (fun W=>Ext w W/\Blk W (w.heap.size+1) (#[.slice none 0 0]) 40/\SolV ({ P with C:=fun _=>0 }) q w3 W (.agg #[.int .i64 kd1,.string vl1,.slice a1_ m1_ c1_,.slice d1_ n1_ f1_,.slice g1_ h1_ k1_])/\Blk W (w4.heap.size) (#[.int .i64 kd1,.string vl1,.slice a1_ m1_ c1_,.slice d1_ n1_ f1_,.slice g1_ h1_ k1_]) 42) ⟨(HX4.out.alloc _),(HB1_4.out.alloc _),(HSV1_4.out.alloc _),(Blk.new' (w:=_) (cs:=#[.int .i64 kd1,.string vl1,.slice a1_ m1_ c1_,.slice d1_ n1_ f1_,.slice g1_ h1_ k1_]) (t:=42) (by first|rfl|(simp only [World.size_alloc];done)|(simp only [World.size_alloc];omega)|simp))⟩ ?_
 rintro w5 ⟨e5,bB1_5,bSV1_5,bB2_5⟩
 have HX5:=Hi53 e5;have HB1_5:=Hi53 bB1_5;have HSV1_5:=Hi53 bSV1_5;have HB2_5:=Hi53 bB2_5
 have HGEB2:Hid (w.heap.size<=w4.heap.size):=Hi53 (HX4.out.size)
 clear e5 bB1_5 bSV1_5 bB2_5
 have c2_0:=HB2_5.out.cell 0 rfl
 have c2_1:=HB2_5.out.cell 1 rfl
 have c2_2:=HB2_5.out.cell 2 rfl
 have c2_3:=HB2_5.out.cell 3 rfl
 have c2_4:=HB2_5.out.cell 4 rfl
 go_wp2_with fail
 refine (short_sol (HG.out.ext (HX5.out)) (HSV1_5.out) hq2 (by show P.n<=1000;omega) (by show P.m<=1000;omega)).mono ?_;rintro e w6 ⟨rfl,e6⟩
 have HX6:=Hi53 (HX5.out.trans e6)
 have HB1_6:=Hi53 (HB1_5.out.ext e6)
 have HSV1_6:=Hi53 (HSV1_5.out.ext e6)
 have HB2_6:=Hi53 (HB2_5.out.ext e6)
 clear e6 c2_0 c2_1 c2_2 c2_3 c2_4
 go_upto_region 8 with fail
 rcases HSV1_6.out.kds with rfl|rfl|rfl
 ·have c2_0:=HB2_6.out.cell 0 rfl
  have c2_2:=HB2_6.out.cell 2 rfl
  have c1_0:=HB1_6.out.cell 0 rfl
  have f1_0:=HB1_6.out.free 0
  go_wp2_with fail
  refine wp_name (fun W=>Ext w W/\Blk W (w.heap.size+1) (#[.slice none 0 0]) 40/\SolV ({ P with C:=fun _=>0 }) q w3 W (.agg #[.int .i64 1,.string vl1,.slice a1_ m1_ c1_,.slice d1_ n1_ f1_,.slice g1_ h1_ k1_])) ⟨(HX6.out.setCell (HGEB1.out) _),(HB1_6.out.set 0 (.slice none 0 0)),(HSV1_6.out.other (a:=⟨w.heap.size+1,0,none⟩) _ ((fm_lt HB1_3.out.lt)))⟩ ?_
  rintro w7 ⟨e7,bB1_7,bSV1_7⟩
  have HX7:=Hi53 e7;have HB1_7:=Hi53 bB1_7;have HSV1_7:=Hi53 bSV1_7
  clear e7 bB1_7 bSV1_7 c2_0 c2_2 c1_0 f1_0
  have gB1_0:=HB1_7.out.cell 0 rfl
  refine bodyPost_ret (v:=.tuple #[.slice a1_ m1_ c1_,.agg #[.slice none 0 0],.bool true,.int .i64 0]) (by simp [results,Tryz.results20,go_sem,gB1_0]) rfl (feaz_b HX7.out (HSV1_7.out.mono HX3.out))
 ·have c2_0:=HB2_6.out.cell 0 rfl
  go_wp2_with fail
  clear c2_0
  refine region_e [.val (.pointer (some ⟨w4.heap.size,3,none⟩)),.val (.agg #[.slice d1_ n1_ f1_]),.val (.slice none 0 0),.eff,.val (.bool false),.val (.int .i64 0)] (fun L g W=>(if L 3=true then Blk W (w.heap.size+1) (#[.slice d1_ n1_ f1_]) 40 else Blk W (w.heap.size+1) (#[.slice none 0 0]) 40)) (S:=fun k=>k=w.heap.size+1) (by kernel_rfl) (by kernel_rfl) (by kernel_rfl) (Mv.refl HX6.out (fun k h=>(fun e=>Nat.le_trans (show w.heap.size<=w.heap.size+1 from HGEB1.out) (Nat.le_of_eq e.symm)) h)) ?_ ?_ ?_ ?_ (fun gv_ w7 hm_ he_=>?_)
  ·exact fun gz_=>(by rw [if_neg (by decide)];exact HB1_6.out.drew)
  ·exact fun L g W W1 h e=>ite_ext (h) (fun h=>h.ext e) (fun h=>h.ext e)
  ·intro i v L g W hi h
   have n3_:i≠3:=fun e=>by subst e;exact absurd (show false=true from hi) (by decide)
   simp only [up_ne n3_,ug_ne n3_];exact h
  ·skip
   refine RV (fun A_ hs_ K_ hK_=>?_) ?_;· have q7_:=(hs_.old 7:A_.tmps[7]?.getD undef = .pointer (some ⟨w4.heap.size,0,none⟩));go_simp;exact fin_ hK_
   refine RV (fun A_ hs_ K_ hK_=>?_) ?_;· have q27_:=hs_.val 0;have c2_3:=(hs_.mv.blk HB2_6.out (fun h=>((show w4.heap.size≠w.heap.size+1 from Nat.ne_of_gt HB1_4.out.lt)) h)).cell 3 rfl;go_simp;exact fin_ hK_
   refine RV (fun A_ hs_ K_ hK_=>?_) ?_;· go_simp;exact fin_ hK_
   refine RnEL.cons (fun L_ g_ A_ W_ hs_=>?_) ?_
   ·have q3_:=(hs_.old 3:A_.tmps[3]?.getD undef = .pointer (some ⟨w.heap.size+1,0,none⟩));have q28_:=hs_.val 1;refine RnE.eff fun K_ hK_=>?_;have n_:=hs_.not;have e_:=hs_.e;rw [if_neg (by rw [n_];decide)] at e_;have c_0:=e_.cell 0 rfl;have f_0:=e_.free 0;have HE_:=Hi53 e_;have HM_:=Hi53 hs_.mv;have HEE_:=Hi53 hs_.e;clear e_ n_;go_simp;exact hK_.out undef _ (HM_.out.setCell (Or.inl (rfl)) _) (by rw [up_at,if_pos rfl];exact (Blk.cast (HE_.out.set 0 _) (by simp only [List.setIfInBounds_toArray,List.set_cons_zero,List.set_cons_succ])))
   refine RV (fun A_ hs_ K_ hK_=>?_) ?_;· go_simp;exact fin_ hK_
   refine RV (fun A_ hs_ K_ hK_=>?_) ?_;· go_simp;exact fin_ hK_
   exact RnEL.nil
  simp only [fse,Ke.value,puts,Act.put,List.setIfInBounds_toArray,List.set_cons_zero,List.set_cons_succ]
  have HX7:Hid (Ext w w7):=Hi53 hm_.ext
  have HB1_7:Hid (Blk w7 (w.heap.size+1) (#[.slice d1_ n1_ f1_]) 40):=Hi53 (by have h_:=he_;rw [if_pos rfl] at h_;exact h_)
  have HSV1_7:=Hi53 (HSV1_6.out.mv hm_ (fun i hi h=>(((fm_lt HB1_3.out.lt)) i hi) h))
  clear hm_ he_
  go_wp2_with fail
  have gB1_0:=HB1_7.out.cell 0 rfl
  refine bodyPost_ret (v:=.tuple #[.slice none 0 0,.agg #[.slice d1_ n1_ f1_],.bool false,.int .i64 0]) (by simp [results,Tryz.results20,go_sem,gB1_0]) rfl (feaz_i HX7.out (HSV1_7.out.mono HX3.out))
 ·exact absurd HSV1_6.out.fall (fun ⟨_,_,d,h,_⟩=>no_worth d h.worth)
section
variable {P:LP} {X w:World} {vr vc v:Value} {va:Nat->Value}
variable (g:Gd w) (hP:PM P w vr vc va) (S:Sm P)
include g hP S
theorem feas_sm:Calls Tryz.prog 20 #[.agg #[.int .i64 (P.n:Int),vr,vc]] w (FeazP P 17 w) :=
 pfeas_c P vr vc va 17 w g hP S.zero.szd S.pq (by have:=S.n;omega) (by have:=S.m;omega) (by decide) (by decide) S.qa17
end
section
variable {P:LP} {v u:Rat} {x y d z:Nat->Rat}
theorem Refutes.core {m:Nat} {f:Nat->Nat} (h:Refutes P y) (hf:∀ i,i<P.m->y i≠0->∃ j,j<m/\f j=i) (x:Nat->Rat):¬ (P.some m f).feas x:=fun hx=>by
 let P2:LP:={ P with B:=fun i=>if y i=0 then smq P.n (fun k=>P.A i k*x k) else P.B i }
 have hb:P2.bnd y=P.bnd y:=smq_congr fun i _=>by
  show y i*(if y i=0 then _ else P.B i)=y i*P.B i
  by_cases e:y i=0
  ·rw [if_pos e,e,Rat.zero_mul,Rat.zero_mul]
  ·rw [if_neg e]
 have h2:Refutes P2 y:=⟨h.pos,h.comb,by rw [hb];exact h.neg⟩
 refine h2.none x fun i hi=>?_
 show smq P.n (fun k=>P.A i k*x k)<=(if y i=0 then smq P.n (fun k=>P.A i k*x k) else P.B i)
 by_cases e:y i=0
 ·rw [if_pos e];exact Rat.le_refl
 ·rw [if_neg e]
  obtain ⟨j,hj,rfl⟩:=hf i hi e
  exact hx j hj
end
def rgf (va:Nat->Value) (B:Nat->Rat) (f:Nat->Nat) (i:Nat):Value:=if i % 2=0 then va (f (i / 2)) else .string (qs (B (f (i / 2))))
theorem rgf_two {va:Nat->Value} {B:Nat->Rat} {f:Nat->Nat} {k:Nat} {x y:Value} (hx:va (f k)=x) (hy : .string (qs (B (f k)))=y):∀ i,i<2->(fun i=>if i=0 then x else y) i=rgf va B f (k*2+i):=fun i hi=>by
 have:i=0∨i=1:=by omega
 rcases this with rfl|rfl
 ·show x=rgf va B f (k*2+0)
  rw [rgf,if_pos (by omega),show (k*2+0) / 2=k by omega,hx]
 ·show y=rgf va B f (k*2+1)
  rw [rgf,if_neg (by omega),show (k*2+1) / 2=k by omega,hy]
theorem core_pm {X W:World} {P:LP} {vr0 vr vc:Value} {va:Nat->Value} {N:Nat} {f:Nat->Nat} (h:PM P W vr0 vc va) (ho:Osl X W 56 2 vr N (rgf va P.B f)) (hf:∀ j,j<N->f j<P.m) (hN:N<=1000):PM (P.some N f) W vr vc (fun i=>va (f i)):=by
 refine ⟨?_,fun i hi=>h.fac (f i) (hf i hi),h.obj⟩
 have hg:∀ i,rgf va P.B f (i*2)=va (f i)/\rgf va P.B f (i*2+1) = .string (qs (P.B (f i))):=fun i=>⟨by rw [rgf,if_pos (by omega),show i*2 / 2=i by omega],by rw [rgf,if_neg (by omega),show (i*2+1) / 2=i by omega]⟩
 rcases ho with ⟨e1,e2⟩|⟨b,cap,D,e1,e2,e3,e4,e5,e6,e7⟩
 ·exact ⟨none,0,by rw [e1];subst e2;rfl,by subst e2;exact Nat.zero_le _,by unfold maxLen;omega,fun i hi=>by subst e2;exact absurd hi (Nat.not_lt_zero i)⟩
 ·refine ⟨some ⟨b,0,none⟩,cap,e1,e4,e5,fun i hi=>⟨b,0,rfl,?_,?_⟩⟩
  ·rw [Nat.zero_add];exact e3.cell _ (by have hi:i<N:=hi;rw [e7 _ (by omega),(hg i).1])
  ·rw [Nat.zero_add];exact e3.cell _ (by have hi:i<N:=hi;rw [e7 _ (by omega),(hg i).2])
theorem core_list {X W : World} {y : Nat -> Rat} {m : Nat} {v : Value} (h : FL X W (ntz (fun i => qs (y i))) m v) :
    ∃ (N:Nat) (f:Nat->Nat) (l0:Option Addr) (lc0:Nat),v = .slice l0 N lc0/\N<=m/\(∀ j,j<N->f j<m)/\(∀ i,i<m->y i≠0->∃ j,j<N/\f j=i)/\∀ j,j<N->∃ a,l0=some a/\W.cell? (a.add j)=some (.int .i64 (f j:Int)):=by
 obtain ⟨la,lc,rfl⟩:=h.lsl
 have hr:=h.ri
 refine ⟨_,fun j=>(fil (ntz fun i=>qs (y i)) m)[j]?.getD 0,la,lc,rfl,fil_len,fun j hj=>?_,fun i hi hy=>?_,?_⟩
 ·show (fil (ntz fun i=>qs (y i)) m)[j]?.getD 0<m
  rw [List.getElem?_eq_getElem hj,Option.getD_some]
  have:=List.getElem_mem hj
  exact List.mem_range.1 (List.mem_filter.1 this).1
 ·have hm:i ∈ fil (ntz fun i=>qs (y i)) m:=List.mem_filter.2 ⟨List.mem_range.2 hi,decide_eq_true (fun e=>hy (qs_inj.1 (by have e:qs (y i)=⟨#[48]⟩:=e;rw [e,qs_zero])))⟩
  obtain ⟨j,hj,e⟩:=List.getElem_of_mem hm
  exact ⟨j,hj,by show (fil (ntz fun i=>qs (y i)) m)[j]?.getD 0=i;rw [List.getElem?_eq_getElem hj,Option.getD_some,e]⟩
 ·obtain ⟨_,_,e,_,_,hc⟩:=hr
  cases e
  exact hc
theorem cores_walk (vv:Int) (m wcap:Nat) (wo:Option Addr) (c:Nat->Nat->Int) (o0 o1 o2:Int) (w:World) (g:Gd w) (hpl:PlOk w vv m wo c o0 o1 o2):Calls Tryz.prog 6 #[.agg #[.int .u8 vv,.slice wo m wcap,.int .i8 o0,.int .i8 o1,.int .i8 o2]] w (Ret w (.bool true)):=by
 have HG:=Hi53 g
 have HPL:=Hi53 hpl
 clear g hpl
 go_enter Tryz.func6,Tryz.ntmps6
 by_cases hm6:m<=6
 ·have HM6:=Hi53 hm6;have HFT:Hid (decide (m<=6)=true):=Hi53 (decide_eq_true hm6)
  go_wp2_with fail
  refine (known7_c _ (HG.out.ext (((Ext.refl w).alloc _)))).mono ?_;rintro e w1 ⟨rfl,e1⟩
  have HX1:Hid (Ext w w1):=Hi53 (((Ext.refl w).alloc _).trans e1)
  have HB0_1:Hid (Blk w1 (w.heap.size) (#[.int .u8 vv,.slice wo m wcap,.int .i8 o0,.int .i8 o1,.int .i8 o2]) 26):=Hi53 (((Blk.new' (w:=_) (cs:=#[.int .u8 vv,.slice wo m wcap,.int .i8 o0,.int .i8 o1,.int .i8 o2]) (t:=26) (by first|rfl|(simp only [World.size_alloc];done)|(simp only [World.size_alloc];omega)|simp))).ext e1)
  have HGEB0:Hid (w.heap.size<=w.heap.size):=Hi53 (Nat.le_refl _)
  clear e1
  have c0_0:=HB0_1.out.cell 0 rfl
  have c0_1:=HB0_1.out.cell 1 rfl
  have c0_2:=HB0_1.out.cell 2 rfl
  have c0_3:=HB0_1.out.cell 3 rfl
  have c0_4:=HB0_1.out.cell 4 rfl
  go_wp2_with fail
  refine ((HFT.out▸fits7_c vv m wcap wo o0 o1 o2 _)).mono ?_;rintro e w2 ⟨rfl,e2⟩
  have HX2:=Hi53 (HX1.out.trans e2)
  have HB0_2:=Hi53 (HB0_1.out.ext e2)
  clear e2 c0_0 c0_1 c0_2 c0_3 c0_4
  have c0_0:=HB0_2.out.cell 0 rfl
  have c0_1:=HB0_2.out.cell 1 rfl
  have c0_2:=HB0_2.out.cell 2 rfl
  have c0_3:=HB0_2.out.cell 3 rfl
  have c0_4:=HB0_2.out.cell 4 rfl
  go_wp2_with fail
  refine (make7 (HPL.out.ext HX2.out) (HG.out.ext (HX2.out)) HM6.out).mono ?_;rintro e w3 ⟨P,ro,rcap,co,ccap,va,rfl,e3,pm_,sm_,pe_,s3_⟩
  have HX3:=Hi53 (HX2.out.trans e3)
  have HB0_3:=Hi53 (HB0_2.out.ext e3)
  clear e3 c0_0 c0_1 c0_2 c0_3 c0_4
  have HPM:=Hi53 pm_;have HSM:=Hi53 sm_;have HPE:=Hi53 pe_;have HS3:=Hi53 s3_;clear pm_ sm_ pe_ s3_
  have HM1_3:Hid (Fr w3 w3):=Hi53 (Fr.refl _)
  go_upto_region 4 with fail
  have HGFM1B1:Hid (w3.heap.size<=w3.heap.size):=Hi53 (Nat.le_trans HM1_3.out.out.size (by first|omega|(simp only [];omega)|(simp;omega)))
  refine wp_name (fun W=>Ext w W/\Blk W (w.heap.size) (#[.int .u8 vv,.slice wo m wcap,.int .i8 o0,.int .i8 o1,.int .i8 o2]) 26/\Fr w3 W/\Blk W (w3.heap.size) (#[.int .i64 (P.n:Int),.slice ro P.m rcap,.slice co P.n ccap]) 32) ⟨(HX3.out.alloc _),(HB0_3.out.alloc _),(HM1_3.out.alloc _),(Blk.new' (w:=_) (cs:=#[.int .i64 (P.n:Int),.slice ro P.m rcap,.slice co P.n ccap]) (t:=32) (by first|rfl|(simp only [World.size_alloc];done)|(simp only [World.size_alloc];omega)|simp))⟩ ?_
  rintro w4 ⟨e4,bB0_4,bM1_4,bB1_4⟩
  have HX4:=Hi53 e4;have HB0_4:=Hi53 bB0_4;have HM1_4:=Hi53 bM1_4;have HB1_4:=Hi53 bB1_4
  have HGEB1:Hid (w.heap.size<=w3.heap.size):=Hi53 (HX3.out.size)
  clear e4 bB0_4 bM1_4 bB1_4
  have c1_0:=HB1_4.out.cell 0 rfl
  have c1_1:=HB1_4.out.cell 1 rfl
  have c1_2:=HB1_4.out.cell 2 rfl
  go_wp2_with fail
  refine (feas_sm (HG.out.ext (HX4.out)) (HPM.out.ext HM1_4.out.out) HSM.out).mono ?_;rintro e w5 ⟨e5,⟨vp,x_,rfl,fz_,qx_,nx_⟩|⟨vd,y,rfl,rf_,qy_,ny_⟩⟩
  ·have HX5:=Hi53 (HX4.out.trans e5)
   have HB0_5:=Hi53 (HB0_4.out.ext e5)
   have HM1_5:=Hi53 (HM1_4.out.ext e5)
   have HB1_5:=Hi53 (HB1_4.out.ext e5)
   clear e5 c1_0 c1_1 c1_2
   clear fz_ qx_
   obtain ⟨op,cp,rfl⟩:=nx_.isl
   clear nx_
   go_wp2
   go_ret
   exact ⟨rfl,(HX5.out.alloc _)⟩
  ·have HX5:=Hi53 (HX4.out.trans e5)
   have HB0_5:=Hi53 (HB0_4.out.ext e5)
   have HM1_5:=Hi53 (HM1_4.out.ext e5)
   have HB1_5:=Hi53 (HB1_4.out.ext e5)
   clear e5 c1_0 c1_1 c1_2
   have HTD:=Hi53 (TxL.qs ny_ qy_ (by decide) (by have:=HSM.out.m;omega));have HRF:=Hi53 rf_
   obtain ⟨od,cd,rfl⟩:=ny_.isl
   clear rf_ qy_ ny_
   have HMF_5:Hid (Fr w5 w5):=Hi53 (Fr.refl _)
   go_upto_region 7 with fail
   have HGFM1B2:Hid (w3.heap.size<=w5.heap.size):=Hi53 (Nat.le_trans HM1_5.out.out.size (by first|omega|(simp only [];omega)|(simp;omega)))
   have HGFMFB2:Hid (w5.heap.size<=w5.heap.size):=Hi53 (Nat.le_trans HMF_5.out.out.size (by first|omega|(simp only [];omega)|(simp;omega)))
   refine wp_name (fun W=>Ext w W/\Blk W (w.heap.size) (#[.int .u8 vv,.slice wo m wcap,.int .i8 o0,.int .i8 o1,.int .i8 o2]) 26/\Fr w3 W/\Blk W (w3.heap.size) (#[.int .i64 (P.n:Int),.slice ro P.m rcap,.slice co P.n ccap]) 32/\Fr w5 W/\Blk W (w5.heap.size) (#[.slice od P.m cd]) 40) ⟨(HX5.out.alloc _),(HB0_5.out.alloc _),(HM1_5.out.alloc _),(HB1_5.out.alloc _),(HMF_5.out.alloc _),(Blk.new' (w:=_) (cs:=#[.slice od P.m cd]) (t:=40) (by first|rfl|(simp only [World.size_alloc];done)|(simp only [World.size_alloc];omega)|simp))⟩ ?_
   rintro w6 ⟨e6,bB0_6,bM1_6,bB1_6,bMF_6,bB2_6⟩
   have HX6:=Hi53 e6;have HB0_6:=Hi53 bB0_6;have HM1_6:=Hi53 bM1_6;have HB1_6:=Hi53 bB1_6;have HMF_6:=Hi53 bMF_6;have HB2_6:=Hi53 bB2_6
   have HGEB2:Hid (w.heap.size<=w5.heap.size):=Hi53 (HX5.out.size)
   clear e6 bB0_6 bM1_6 bB1_6 bMF_6 bB2_6
   have c2_0:=HB2_6.out.cell 0 rfl
   go_wp2_with fail
   refine (psupport_c (HTD.out.rs.ext HMF_6.out.out) HTD.out.le).mono ?_;rintro e w7 ⟨va1,rfl,e7,fl_⟩
   have HX7:=Hi53 (HX6.out.trans e7)
   have HB0_7:=Hi53 (HB0_6.out.ext e7)
   have HM1_7:=Hi53 (HM1_6.out.ext e7)
   have HB1_7:=Hi53 (HB1_6.out.ext e7)
   have HMF_7:=Hi53 (HMF_6.out.ext e7)
   have HB2_7:=Hi53 (HB2_6.out.ext e7)
   clear e7 c2_0
   obtain ⟨N,f,l0,lc0,rfl,n1_,n2_,n3_,n4_⟩:=core_list fl_
   have HN:=Hi53 n1_;have HFL:=Hi53 n2_;have HFC:=Hi53 n3_;have HLC:=Hi53 n4_;clear fl_ n1_ n2_ n3_ n4_
   have hN6:N<=6:=by have:=HSM.out.m;have:=HN.out;omega
   have HPM2:Hid (PM P w7 (.slice ro P.m rcap) (.slice co P.n ccap) va):=Hi53 (HPM.out.ext HM1_7.out.out)
   have hrr:=HPM2.out.rows
   obtain ⟨_,_,er_,_,_,hrr⟩:=hrr
   cases er_
   have HRR:=Hi53 hrr;clear hrr
   have HM2_7:Hid (Fr w7 w7):=Hi53 (Fr.refl _)
   have c1_0:=HB1_7.out.cell 0 rfl
   have c1_1:=HB1_7.out.cell 1 rfl
   have c1_2:=HB1_7.out.cell 2 rfl
   go_wp2_with fail
   have HGFM2B3:Hid (w7.heap.size<=w7.heap.size):=Hi53 (Nat.le_trans HM2_7.out.out.size (by first|omega|(simp only [];omega)|(simp;omega)))
   refine wp_name (fun W=>Ext w W/\Blk W (w.heap.size) (#[.int .u8 vv,.slice wo m wcap,.int .i8 o0,.int .i8 o1,.int .i8 o2]) 26/\Blk W (w3.heap.size) (#[.int .i64 (P.n:Int),.slice ro P.m rcap,.slice co P.n ccap]) 32/\Blk W (w5.heap.size) (#[.slice od P.m cd]) 40/\Fr w7 W/\Blk W (w7.heap.size) (#[.int .i64 (P.n:Int),.slice none 0 0,.slice co P.n ccap]) 32) ⟨(HX7.out.alloc _),(HB0_7.out.alloc _),(HB1_7.out.alloc _),(HB2_7.out.alloc _),(HM2_7.out.alloc _),(Blk.new' (w:=_) (cs:=#[.int .i64 (P.n:Int),.slice none 0 0,.slice co P.n ccap]) (t:=32) (by first|rfl|(simp only [World.size_alloc];done)|(simp only [World.size_alloc];omega)|simp))⟩ ?_
   rintro w8 ⟨e8,bB0_8,bB1_8,bB2_8,bM2_8,bB3_8⟩
   have HX8:=Hi53 e8;have HB0_8:=Hi53 bB0_8;have HB1_8:=Hi53 bB1_8;have HB2_8:=Hi53 bB2_8;have HM2_8:=Hi53 bM2_8;have HB3_8:=Hi53 bB3_8
   have HGEB3:Hid (w.heap.size<=w7.heap.size):=Hi53 (HX7.out.size)
   clear e8 bB0_8 bB1_8 bB2_8 bM2_8 bB3_8 c1_0 c1_1 c1_2
   go_wp2_with fail
   go_loopw [10] (fun x0_ wx=>∃ k:Nat,x0_ = .int .i64 k/\k<=N/\Hid (Ext w wx/\Blk wx (w.heap.size) (#[.int .u8 vv,.slice wo m wcap,.int .i8 o0,.int .i8 o1,.int .i8 o2]) 26/\Blk wx (w3.heap.size) (#[.int .i64 (P.n:Int),.slice ro P.m rcap,.slice co P.n ccap]) 32/\Blk wx (w5.heap.size) (#[.slice od P.m cd]) 40/\Fr w7 wx/\(∃ vr,Blk wx (w7.heap.size) #[.int .i64 (P.n:Int),vr,.slice co P.n ccap] 32/\Osl w7 wx 56 2 vr k (rgf va P.B f)))) (fun x0_ _=>N-(intOf x0_).toNat)
   case atStart=>exact ⟨0,rfl,Nat.zero_le _,Hi53 ⟨HX8.out,HB0_8.out,HB1_8.out,HB2_8.out,HM2_8.out,⟨_,HB3_8.out,Osl.nil _ _ _ _ _⟩⟩⟩
   case round =>
    rename World=>w9
    obtain ⟨k,rfl,hkk,HH⟩:=hrel
    have HX9:=Hi53 HH.out.1
    have HB0_9:=Hi53 HH.out.2.1
    have HB1_9:=Hi53 HH.out.2.2.1
    have HB2_9:=Hi53 HH.out.2.2.2.1
    have HM2_9:=Hi53 HH.out.2.2.2.2.1
    obtain ⟨vr,a1_,a2_⟩:=HH.out.2.2.2.2.2
    obtain ⟨la,lc,rfl⟩:=a2_.lsl
    have HB3_9:=Hi53 a1_;have HOL_9:=Hi53 a2_;clear a1_ a2_
    clear HH
    by_cases hlt:k<N
    ·have hlt2:(k:Int)<((N:Nat):Int):=by omega
     obtain ⟨al,rfl,zc_⟩:=HLC.out k hlt
     have HCl:=Hi53 zc_;clear zc_
     obtain ⟨ra,o_,rfl,zr_,zs_⟩:=HRR.out (f k) (HFL.out k hlt)
     obtain ⟨fo,fcap,ef_,_⟩:=HPM2.out.fac (f k) (HFL.out k hlt)
     have HEF:=Hi53 ef_;rw [ef_] at zr_
     have HCr:=Hi53 zr_;have HCs:=Hi53 zs_;clear zr_ zs_ ef_
     have hf0:¬ ((f k:Nat):Int)<0:=by omega
     have hf1:¬ ((P.m:Nat):Int)<=((f k:Nat):Int):=by have:=HFL.out k hlt;omega
     have hf2:¬ P.m<=f k:=by have:=HFL.out k hlt;omega
     go_wp2_with fail
     refine region_e [.val (.slice (some al) N lc0),.val (.int .i64 (k:Int)),.val (.pointer (some (al.add k))),.val (.int .i64 (f k:Int)),.val (.bool false),.val (.bool false),.val (.slice (some al) N lc0),.val (.int .i64 (k:Int)),.val (.pointer (some (al.add k))),.val (.int .i64 (f k:Int)),.val (.pointer (some ⟨w3.heap.size,1,none⟩)),.val (.slice (some ⟨ra,o_,none⟩) P.m rcap),.val (.int .i64 (P.m:Int)),.val (.bool false),.val (.bool false)] (fun L g W=>True) (S:=fun _=>False) (by kernel_rfl) (by kernel_rfl) (by kernel_rfl) (Mv.refl (Ext.refl _) (fun k h=>h.elim)) ?_ ?_ ?_ ?_ (fun gv_ w10 hm_ he_=>?_)
     ·exact fun _=>trivial
     ·exact fun _ _ _ _ h _=>h
     ·exact fun _ _ _ _ _ _ h=>h
     ·skip
      refine RV (fun A_ hs_ K_ hK_=>?_) ?_;· have q8_:=(hs_.old 8:A_.tmps[8]?.getD undef = .slice (some al) N lc0);go_simp;exact fin_ hK_
      refine RV (fun A_ hs_ K_ hK_=>?_) ?_;· have q10_:=(hs_.old 10:A_.tmps[10]?.getD undef = .int .i64 (k:Int));go_simp;exact fin_ hK_
      refine RV (fun A_ hs_ K_ hK_=>?_) ?_;· have q45_:=hs_.val 0;have q46_:=hs_.val 1;go_simp;exact fin_ hK_
      refine RV (fun A_ hs_ K_ hK_=>?_) ?_;· have q47_:=hs_.val 2;have cl_k:=keepA (HM2_9.out.ext hs_.mv.ext).out (HCl.out);go_simp;exact fin_ hK_
      refine RV (fun A_ hs_ K_ hK_=>?_) ?_;· have q48_:=hs_.val 3;go_simp;exact fin_ hK_
      refine RV (fun A_ hs_ K_ hK_=>?_) ?_;· have q49_:=hs_.val 4;go_simp;exact fin_ hK_
      refine RV (fun A_ hs_ K_ hK_=>?_) ?_;· have q8_:=(hs_.old 8:A_.tmps[8]?.getD undef = .slice (some al) N lc0);go_simp;exact fin_ hK_
      refine RV (fun A_ hs_ K_ hK_=>?_) ?_;· have q10_:=(hs_.old 10:A_.tmps[10]?.getD undef = .int .i64 (k:Int));go_simp;exact fin_ hK_
      refine RV (fun A_ hs_ K_ hK_=>?_) ?_;· have q51_:=hs_.val 6;have q52_:=hs_.val 7;go_simp;exact fin_ hK_
      refine RV (fun A_ hs_ K_ hK_=>?_) ?_;· have q53_:=hs_.val 8;have cl_k:=keepA (HM2_9.out.ext hs_.mv.ext).out (HCl.out);go_simp;exact fin_ hK_
      refine RV (fun A_ hs_ K_ hK_=>?_) ?_;· have q3_:=(hs_.old 3:A_.tmps[3]?.getD undef = .pointer (some ⟨w3.heap.size,0,none⟩));go_simp;exact fin_ hK_
      refine RV (fun A_ hs_ K_ hK_=>?_) ?_;· have q55_:=hs_.val 10;have c1_1:=(hs_.mv.blk HB1_9.out (fun h=>h)).cell 1 rfl;go_simp;exact fin_ hK_
      refine RV (fun A_ hs_ K_ hK_=>?_) ?_;· have q56_:=hs_.val 11;go_simp;exact fin_ hK_
      refine RV (fun A_ hs_ K_ hK_=>?_) ?_;· have q54_:=hs_.val 9;have q57_:=hs_.val 12;go_simp;exact fin_ hK_
      refine RV (fun A_ hs_ K_ hK_=>?_) ?_;· have q50_:=hs_.val 5;have q58_:=hs_.val 13;go_simp;exact fin_ hK_
      exact RnEL.nil
     simp only [fse,Ke.value,puts,Act.put,List.setIfInBounds_toArray,List.set_cons_zero,List.set_cons_succ]
     have HX10:=Hi53 (HX9.out.trans hm_.ext)
     have HB0_10:=Hi53 (hm_.blk HB0_9.out (fun h=>h))
     have HB1_10:=Hi53 (hm_.blk HB1_9.out (fun h=>h))
     have HB2_10:=Hi53 (hm_.blk HB2_9.out (fun h=>h))
     have HM2_10:=Hi53 (HM2_9.out.ext hm_.ext)
     have HB3_10:=Hi53 (hm_.blk HB3_9.out (fun h=>h))
     have HOL_10:=Hi53 (HOL_9.out.mv hm_ (fun i hi h=>h))
     clear hm_ he_
     go_wp2_with fail
     go_wp2_with fail
     refine region_e [.val (.pointer (some ⟨w7.heap.size,1,none⟩)),.val (.slice la k lc),.val (.pointer (some ⟨w3.heap.size,1,none⟩)),.val (.slice (some ⟨ra,o_,none⟩) P.m rcap),.val (.slice (some al) N lc0),.val (.int .i64 (k:Int)),.val (.pointer (some (al.add k))),.val (.int .i64 (f k:Int)),.val (.pointer (some ⟨ra,o_+(f k)*2,none⟩)),.val (.agg #[.slice fo P.n fcap,.string (qs (P.B (f k)))]),.eff,.eff,.val (.pointer (some ⟨w7.heap.size,1,none⟩)),.eff] (fun L g W=>Fr w7 W/\(L 10=true->∃ b,g 10 = .slice (some ⟨b,0,none⟩) 1 1/\(L 11=false->Blk W b #[.slice fo P.n fcap,.string (qs (P.B (f k)))] 56))/\(if L 11=true then Osl w7 W 56 2 (g 11) (k+1) (app (k*2) (rgf va P.B f) (fun i=>if i=0 then .slice fo P.n fcap else .string (qs (P.B (f k))))) else Osl w7 W 56 2 (.slice la k lc) k (rgf va P.B f))/\(if L 13=true then Blk W (w7.heap.size) #[.int .i64 (P.n:Int),g 11,.slice co P.n ccap] 32 else Blk W (w7.heap.size) #[.int .i64 (P.n:Int),.slice la k lc,.slice co P.n ccap] 32)) (S:=fun q=>vob (.slice la k lc) q∨q=w7.heap.size) (by kernel_rfl) (by kernel_rfl) (by kernel_rfl) (Mv.refl HX10.out (fun q h=>h.elim (fun a=>Nat.le_trans HX7.out.size (HOL_10.out.lt a).1) (fun e=>e▸HGEB3.out))) ?_ ?_ ?_ ?_ (fun gv_ w11 hm_ he_=>?_)
     ·exact fun g=>⟨HM2_10.out.drew,fun h=>absurd h (by decide),(by rw [if_neg (by decide)];exact HOL_10.out.drew),(by rw [if_neg (by decide)];exact HB3_10.out.drew)⟩
     ·exact fun L g W W1 h e=>⟨h.1.ext e,fun a=>let ⟨b,x,y⟩:=h.2.1 a;⟨b,x,fun z=>(y z).ext e⟩,ite_ext h.2.2.1 (fun h=>h.ext e) (fun h=>h.ext e),ite_ext h.2.2.2 (fun h=>h.ext e) (fun h=>h.ext e)⟩
     ·intro i v L g W hi h
      have n10_:i≠10:=fun e=>by subst e;exact absurd (show false=true from hi) (by decide)
      have n11_:i≠11:=fun e=>by subst e;exact absurd (show false=true from hi) (by decide)
      have n13_:i≠13:=fun e=>by subst e;exact absurd (show false=true from hi) (by decide)
      simp only [up_ne n10_,ug_ne n10_,up_ne n11_,ug_ne n11_,up_ne n13_,ug_ne n13_];exact h
     ·skip
      refine RV (fun A_ hs_ K_ hK_=>?_) ?_;· have q9_:=(hs_.old 9:A_.tmps[9]?.getD undef = .pointer (some ⟨w7.heap.size,0,none⟩));go_simp;exact fin_ hK_
      refine RV (fun A_ hs_ K_ hK_=>?_) ?_;· have q60_:=hs_.val 0;have n_:=hs_.no 13 (by decide) (by kernel_rfl);have ep_:=hs_.e.2.2.2;rw [if_neg (by rw [n_];decide)] at ep_;have cp_1:=ep_.cell 1 rfl;clear n_ ep_;go_simp;exact fin_ hK_
      refine RV (fun A_ hs_ K_ hK_=>?_) ?_;· have q3_:=(hs_.old 3:A_.tmps[3]?.getD undef = .pointer (some ⟨w3.heap.size,0,none⟩));go_simp;exact fin_ hK_
      refine RV (fun A_ hs_ K_ hK_=>?_) ?_;· have q62_:=hs_.val 2;have c1_1:=(hs_.mv.blk HB1_10.out (fun h=>h.elim (HOL_10.out.not_vob HB1_10.out (by decide)) (fun e=>(Nat.ne_of_lt HB1_7.out.lt) e))).cell 1 rfl;go_simp;exact fin_ hK_
      refine RV (fun A_ hs_ K_ hK_=>?_) ?_;· have q8_:=(hs_.old 8:A_.tmps[8]?.getD undef = .slice (some al) N lc0);go_simp;exact fin_ hK_
      refine RV (fun A_ hs_ K_ hK_=>?_) ?_;· have q10_:=(hs_.old 10:A_.tmps[10]?.getD undef = .int .i64 (k:Int));go_simp;exact fin_ hK_
      refine RV (fun A_ hs_ K_ hK_=>?_) ?_;· have q64_:=hs_.val 4;have q65_:=hs_.val 5;go_simp;exact fin_ hK_
      refine RV (fun A_ hs_ K_ hK_=>?_) ?_;· have q66_:=hs_.val 6;have cl_k:=keepA hs_.e.1.out (HCl.out);go_simp;exact fin_ hK_
      refine RV (fun A_ hs_ K_ hK_=>?_) ?_;· have q63_:=hs_.val 3;have q67_:=hs_.val 7;go_simp;exact fin_ hK_
      refine RV (fun A_ hs_ K_ hK_=>?_) ?_;· have q68_:=hs_.val 8;have cr_o_____f_k____2:=keepA hs_.e.1.out (HCr.out);have cr_o_____f_k____2___1:=keepA hs_.e.1.out (HCs.out);go_simp;exact fin_ hK_
      refine RnEL.cons (fun L_ g_ A_ W_ hs_=>?_) ?_
      ·have q69_:=hs_.val 9;refine RnE.eff fun K_ hK_=>?_;have n11_:=hs_.no 11 (by decide) (by kernel_rfl);have n13_:=hs_.no 13 (by decide) (by kernel_rfl);have n10_:=hs_.not;have e_:=hs_.e;simp only [n11_,n13_,n10_,Bool.false_eq_true,if_false,if_true] at e_;have HN_:=Hi53 (And.intro n11_ (n13_));clear n11_ n13_ n10_;have HE_:=Hi53 e_;have HM_:=Hi53 hs_.mv;clear e_;go_simp;exact hK_.out _ _ (HM_.out.alloc _) (by simp only [up_at,ug_at,up_ne (show (10:Nat)≠11 by decide),ug_ne (show (10:Nat)≠11 by decide),up_ne (show (10:Nat)≠13 by decide),ug_ne (show (10:Nat)≠13 by decide),HN_.out.1,HN_.out.2,Bool.false_eq_true,if_false,if_true];exact ⟨HE_.out.1.alloc _,fun _=>⟨_,rfl,fun _=>Blk.new _ _ _⟩,HE_.out.2.2.1.alloc _,HE_.out.2.2.2.alloc _⟩)
      refine RnEL.cons (fun L_ g_ A_ W_ hs_=>?_) ?_
      ·have q61_:=hs_.val 1;have q70_:=hs_.eff 10;refine RnE.eff fun K_ hK_=>?_;have y10_:=hs_.yes 10 (by kernel_rfl);have n13_:=hs_.no 13 (by decide) (by kernel_rfl);have n11_:=hs_.not;have e_:=hs_.e;simp only [y10_,n13_,n11_,Bool.false_eq_true,if_false,if_true] at e_;obtain ⟨b_,g_eq,hb_⟩:=e_.2.1 trivial;rw [g_eq] at q70_;have HG_:=Hi53 g_eq;have HB_:=Hi53 (hb_ trivial);clear g_eq hb_;have HN_:=Hi53 (And.intro y10_ (n13_));clear y10_ n13_ n11_;have HE_:=Hi53 e_;have HM_:=Hi53 hs_.mv;clear e_;refine op_append (X:=w7) (H:=(fun i=>if i=0 then .slice fo P.n fcap else .string (qs (P.B (f k))))) (ad:=⟨b_,0,none⟩) (m:=1) (c:=1) (v:=.slice la k lc) rfl (by go_simp) (by go_simp) under_r info_r rfl HE_.out.1.out HE_.out.2.2.1 (fun _=>by decide) (two_src HB_.out) (two_one rfl rfl) (by unfold maxLen;omega) (by omega) (fun v_ W9_ hA_=>?_);exact hK_.out v_ W9_ (HM_.out.comp (hA_.mv.down HX7.out) (fun q h=>Or.inl (Or.inl h))) (by simp only [up_at,ug_at,up_ne (show (11:Nat)≠10 by decide),ug_ne (show (11:Nat)≠10 by decide),up_ne (show (11:Nat)≠13 by decide),ug_ne (show (11:Nat)≠13 by decide),HN_.out.1,HN_.out.2,Bool.false_eq_true,if_false,if_true];exact ⟨⟨hA_.mv.ext⟩,fun _=>⟨b_,HG_.out,(fun h=>by cases h)⟩,hA_.own,hA_.mv.blk HE_.out.2.2.2 (HE_.out.2.2.1.not_vob HE_.out.2.2.2 (by decide))⟩)
      refine RV (fun A_ hs_ K_ hK_=>?_) ?_;· have q9_:=(hs_.old 9:A_.tmps[9]?.getD undef = .pointer (some ⟨w7.heap.size,0,none⟩));go_simp;exact fin_ hK_
      refine RnEL.cons (fun L_ g_ A_ W_ hs_=>?_) ?_
      ·have q72_:=hs_.val 12;have q71_:=hs_.eff 11;refine RnE.eff fun K_ hK_=>?_;have y10_:=hs_.yes 10 (by kernel_rfl);have y11_:=hs_.yes 11 (by kernel_rfl);have n13_:=hs_.not;have e_:=hs_.e;simp only [y10_,y11_,n13_,Bool.false_eq_true,if_false,if_true] at e_;obtain ⟨a_,cc_,es_⟩:=e_.2.2.1.lsl;rw [es_] at e_ q71_;have HES:=Hi53 es_;clear es_;have c_:=e_.2.2.2.cell 1 rfl;have f_:=e_.2.2.2.free 1;have HN_:=Hi53 (And.intro y10_ (y11_));clear y10_ y11_ n13_;have HE_:=Hi53 e_;have HM_:=Hi53 hs_.mv;clear e_;go_simp;exact hK_.out undef _ (HM_.out.setCell (Or.inl (Or.inr rfl)) _) (by simp only [up_at,ug_at,up_ne (show (13:Nat)≠10 by decide),ug_ne (show (13:Nat)≠10 by decide),up_ne (show (13:Nat)≠11 by decide),ug_ne (show (13:Nat)≠11 by decide),HN_.out.1,HN_.out.2,HES.out,Bool.false_eq_true,if_false,if_true];exact ⟨HE_.out.1.other _ HGFM2B3.out,fun _=>let ⟨b,x,_⟩:=HE_.out.2.1 trivial;⟨b,x,(fun h=>by cases h)⟩,HE_.out.2.2.1.other _ (HE_.out.2.2.1.not_vob HE_.out.2.2.2 (by decide)),HE_.out.2.2.2.set 1 _⟩)
      exact RnEL.nil
     simp only [fse,Ke.value,puts,Act.put,List.setIfInBounds_toArray,List.set_cons_zero,List.set_cons_succ,Nat.reduceAdd]
     have HX11:Hid (Ext w w11):=Hi53 hm_.ext
     have HB0_11:=Hi53 (hm_.blk HB0_10.out (fun h=>h.elim (HOL_10.out.not_vob HB0_10.out (by decide)) (fun e=>(Nat.ne_of_lt HB0_7.out.lt) e)))
     have HB1_11:=Hi53 (hm_.blk HB1_10.out (fun h=>h.elim (HOL_10.out.not_vob HB1_10.out (by decide)) (fun e=>(Nat.ne_of_lt HB1_7.out.lt) e)))
     have HB2_11:=Hi53 (hm_.blk HB2_10.out (fun h=>h.elim (HOL_10.out.not_vob HB2_10.out (by decide)) (fun e=>(Nat.ne_of_lt HB2_7.out.lt) e)))
     have h_:=he_;simp only [if_true] at h_
     obtain ⟨vr2,ev_⟩:∃ v,gv_ 11=v:=⟨_,rfl⟩
     rw [ev_] at h_
     have HM2_11:=Hi53 h_.1;have HOL_11:=Hi53 (osl_app h_.2.2.1 (rgf_two HEF.out rfl));have HB3_11:=Hi53 h_.2.2.2;clear h_ ev_
     clear hm_ he_
     go_wp2_with fail
     go_roundw
     case rel=>exact ⟨k+1,by go_num,by omega,Hi53 ⟨HX11.out,HB0_11.out,HB1_11.out,HB2_11.out,HM2_11.out,⟨_,HB3_11.out,HOL_11.out⟩⟩⟩
     case measure=>simp [intOf];omega
    ·have hk2:k=N:=by omega
     have hge:¬ (k:Int)<((N:Nat):Int):=by omega
     obtain rfl:N=k:=hk2.symm
     go_upto_region 16 with fail
     have c3_0:=HB3_9.out.cell 0 rfl
     have c3_1:=HB3_9.out.cell 1 rfl
     have c3_2:=HB3_9.out.cell 2 rfl
     go_wp2_with fail
     refine (feas_sm (P:=P.some N f) (HG.out.ext (HX9.out)) (core_pm (HPM2.out.ext HM2_9.out.out) HOL_9.out HFL.out (by omega)) (HSM.out.some hN6 HFL.out)).mono ?_;rintro e w10 ⟨e10,⟨vp,x_,rfl,fz_,qx_,nx_⟩|⟨vd,y2,rfl,rf_,qy_,ny_⟩⟩
     ·exact (HRF.out.core HFC.out _ fz_).elim
     ·have HX10:=Hi53 (HX9.out.trans e10)
      have HB0_10:=Hi53 (HB0_9.out.ext e10)
      have HB1_10:=Hi53 (HB1_9.out.ext e10)
      have HB2_10:=Hi53 (HB2_9.out.ext e10)
      have HM2_10:=Hi53 (HM2_9.out.ext e10)
      have HB3_10:=Hi53 (HB3_9.out.ext e10)
      have HOL_10:=Hi53 (HOL_9.out.ext e10)
      clear e10 c3_0 c3_1 c3_2
      clear rf_ qy_ ny_
      go_wp2
      go_ret
      exact ⟨rfl,HX10.out⟩
 ·have HFT:Hid (decide (m<=6)=false):=Hi53 (decide_eq_false hm6)
  go_wp2_with fail
  refine (known7_c _ (HG.out.ext (((Ext.refl w).alloc _)))).mono ?_;rintro e w1 ⟨rfl,e1⟩
  have HX1:Hid (Ext w w1):=Hi53 (((Ext.refl w).alloc _).trans e1)
  have HB0_1:Hid (Blk w1 (w.heap.size) (#[.int .u8 vv,.slice wo m wcap,.int .i8 o0,.int .i8 o1,.int .i8 o2]) 26):=Hi53 (((Blk.new' (w:=_) (cs:=#[.int .u8 vv,.slice wo m wcap,.int .i8 o0,.int .i8 o1,.int .i8 o2]) (t:=26) (by first|rfl|(simp only [World.size_alloc];done)|(simp only [World.size_alloc];omega)|simp))).ext e1)
  have HGEB0:Hid (w.heap.size<=w.heap.size):=Hi53 (Nat.le_refl _)
  clear e1
  have c0_0:=HB0_1.out.cell 0 rfl
  have c0_1:=HB0_1.out.cell 1 rfl
  have c0_2:=HB0_1.out.cell 2 rfl
  have c0_3:=HB0_1.out.cell 3 rfl
  have c0_4:=HB0_1.out.cell 4 rfl
  go_wp2_with fail
  refine ((HFT.out▸fits7_c vv m wcap wo o0 o1 o2 _)).mono ?_;rintro e w2 ⟨rfl,e2⟩
  have HX2:=Hi53 (HX1.out.trans e2)
  have HB0_2:=Hi53 (HB0_1.out.ext e2)
  clear e2 c0_0 c0_1 c0_2 c0_3 c0_4
  go_wp2_with fail
  refine (known7_c _ (HG.out.ext (HX2.out))).mono ?_;rintro e w3 ⟨rfl,e3⟩
  have HX3:=Hi53 (HX2.out.trans e3)
  have HB0_3:=Hi53 (HB0_2.out.ext e3)
  clear e3
  go_wp2
  go_ret
  exact ⟨rfl,HX3.out⟩
end Go.Proofs.YtcenemaadnlknaaGreatDoor
