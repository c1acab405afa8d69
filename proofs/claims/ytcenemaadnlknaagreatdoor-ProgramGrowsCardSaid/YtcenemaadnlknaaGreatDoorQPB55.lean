/- Part 55 of the proof: S28, S41, S47. -/
import Derived.Test.YtcenemaadnlknaaGreatDoorQPB41
import Derived.Test.YtcenemaadnlknaaGreatDoorQPB52
set_option maxRecDepth 100000
set_option maxHeartbeats 2000000
set_option linter.unusedSimpArgs false
set_option linter.unusedVariables false
theorem Go.Proofs.YtcenemaadnlknaaGreatDoor.Hi55 {p:Prop} (h:p):Go.RowKit.Hid p:=h
namespace Go.Proofs.YtcenemaadnlknaaGreatDoor
open Go Go.RowKit
theorem QB3:QB 1 (3:Rat):=QB.int (n:=3) (k:=1) ⟨by decide⟩ (by decide)
theorem p3_three (b:Rat) (w:World) (g:Gd w) (h:QB 200 b):Calls Tryz.prog 17 #[.string ⟨#[51]⟩,.string (qs b)] w (Ret w (.string (qs (3*b)))):=by
 have:=p3_times 3 b w g (QB3.mono (by omega)) h
 rwa [qs_three] at this
section
variable {P:LP} {v u:Rat} {x y d z:Nat->Rat}
def RSh (kd:Int) (val:ByteArray) (v:Value):Prop:=∃ o1 m1 c1 o2 m2 c2 o3 m3 c3,v = .agg #[.int .i64 kd,.string val,.slice o1 m1 c1,.slice o2 m2 c2,.slice o3 m3 c3]
theorem SolV.way {q:Nat} {X w:World} {r:Value} (h:SolV P q X w r):(∃ v x y,Best P v x y/\QB q v/\RSh 1 (qs v) r)∨(∃ y,Refutes P y/\RSh 2 ⟨#[]⟩ r)∨(∃ x d,Falls P x d/\RSh 3 ⟨#[]⟩ r):=by
 rcases h with ⟨val,x,y,vp,vd,rfl,h2,h3,h4,h5,h6,h7⟩|⟨y,vd,rfl,h2,h3,h4⟩|⟨x,d,vp,vd,rfl,h2,h3,h4,h5,h6⟩
 ·obtain ⟨a,c,rfl⟩:=h6.isl;obtain ⟨a',c',rfl⟩:=h7.isl
  exact Or.inl ⟨val,x,y,h2,h3,_,_,_,_,_,_,_,_,_,rfl⟩
 ·obtain ⟨a,c,rfl⟩:=h4.isl
  exact Or.inr (Or.inl ⟨y,h2,_,_,_,_,_,_,_,_,_,rfl⟩)
 ·obtain ⟨a,c,rfl⟩:=h5.isl;obtain ⟨a',c',rfl⟩:=h6.isl
  exact Or.inr (Or.inr ⟨x,d,h2,_,_,_,_,_,_,_,_,_,rfl⟩)
def GrW (ra rb rc:Value):Prop :=
 (∃ v u:Rat,u<=v/\QB 17 v/\QB 17 u/\RSh 1 (qs v) ra/\RSh 1 (qs u) rb/\RSh 1 (qs (3*v)) rc) ∨
 (∃ v:Rat,QB 17 v/\RSh 1 (qs v) ra/\RSh 3 ⟨#[]⟩ rb/\RSh 1 (qs (3*v)) rc) ∨
 (RSh 2 ⟨#[]⟩ ra/\(∃ kd val,(kd=1∨kd=2∨kd=3)/\RSh kd val rb)/\RSh 2 ⟨#[]⟩ rc) ∨
 (RSh 3 ⟨#[]⟩ ra/\RSh 3 ⟨#[]⟩ rb/\RSh 3 ⟨#[]⟩ rc)
theorem grows {m:Nat} (hm:m<=P.m) {Xa wa Xb wb Xc wc:World} {ra rb rc:Value} (ha:SolV P 17 Xa wa ra) (hb:SolV (P.less m) 17 Xb wb rb) (hc:SolV P.three 17 Xc wc rc):GrW ra rb rc:=by
 have lf:∀ {x},P.feas x->(P.less m).feas x:=fun h i hi=>h i (Nat.lt_of_lt_of_le hi hm)
 rcases ha.way with ⟨v,x,y,h1,hq,s1⟩|⟨y,h1,s1⟩|⟨x,d,h1,s1⟩
 ·have s3:RSh 1 (qs (3*v)) rc:=by
   rcases hc.way with ⟨u,x',y',h3,_,s3⟩|⟨y',h3,s3⟩|⟨x',d',h3,s3⟩
   ·rw [← h3.unique h1.three];exact s3
   ·exact (h1.three.no_ref h3).elim
   ·exact (h1.three.no_fall h3).elim
  rcases hb.way with ⟨u,x',y',h2,hq2,s2⟩|⟨y',h2,s2⟩|⟨x',d',h2,s2⟩
  ·refine Or.inl ⟨v,u,?_,hq,hq2,s1,s2,s3⟩
   have:=h2.least x (lf h1.feas)
   rw [show (P.less m).obj x=P.obj x from rfl,h1.worth] at this;exact this
  ·exact (h2.none x (lf h1.feas)).elim
  ·exact Or.inr (Or.inl ⟨v,hq,s1,s2,s3⟩)
 ·refine Or.inr (Or.inr (Or.inl ⟨s1,?_,?_⟩))
  ·rcases hb.way with ⟨_,_,_,_,_,s2⟩|⟨_,_,s2⟩|⟨_,_,_,s2⟩
   ·exact ⟨_,_,Or.inl rfl,s2⟩
   ·exact ⟨_,_,Or.inr (Or.inl rfl),s2⟩
   ·exact ⟨_,_,Or.inr (Or.inr rfl),s2⟩
  ·rcases hc.way with ⟨u,x',y',h3,_,s3⟩|⟨y',h3,s3⟩|⟨x',d',h3,s3⟩
   ·exact (h3.no_ref h1.three).elim
   ·exact s3
   ·exact (h1.none x' h3.feas).elim
 ·refine Or.inr (Or.inr (Or.inr ⟨s1,?_,?_⟩))
  ·rcases hb.way with ⟨u,x',y',h2,_,s2⟩|⟨y',h2,s2⟩|⟨x',d',h2,s2⟩
   ·exact (h2.no_fall (h1.less hm)).elim
   ·exact (h2.none x (lf h1.feas)).elim
   ·exact s2
  ·rcases hc.way with ⟨u,x',y',h3,_,s3⟩|⟨y',h3,s3⟩|⟨x',d',h3,s3⟩
   ·exact (h3.no_fall h1.three).elim
   ·exact (h3.none x h1.feas).elim
   ·exact s3
end
theorem SolV.sh {P:LP} {q:Nat} {X w:World} {v:Value} (h:SolV P q X w v):∃ kd val o1 m1 c1 o2 m2 c2 o3 m3 c3,v = .agg #[.int .i64 kd,.string val,.slice o1 m1 c1,.slice o2 m2 c2,.slice o3 m3 c3]:=by
 rcases h.way with ⟨_,_,_,_,_,s⟩|⟨_,_,s⟩|⟨_,_,_,s⟩ <;> exact ⟨_,_,s⟩
theorem RSh.eqs {kd k:Int} {val x:ByteArray} {s1 s2 s3:Value} (h:RSh kd val (.agg #[.int .i64 k,.string x,s1,s2,s3])):k=kd/\x=val:=by
 obtain ⟨_,_,_,_,_,_,_,_,_,e⟩:=h
 simp at e
 exact ⟨e.1,e.2.1⟩
theorem ite_lt {c:Prop} [Decidable c] {A B p:Prop} (h:if c then A else B) (f:A->p) (g:B->p):p:=by
 split at h
 ·exact f h
 ·exact g h
theorem less_pm {P:LP} {w:World} {ro:Option Addr} {m rcap r:Nat} {vc:Value} {va:Nat->Value} (h:PM P w (.slice ro m rcap) vc va) (hr:r<=P.m):PM (P.less r) w (.slice ro r rcap) vc va:=by
 refine ⟨?_,fun i hi=>h.fac i (Nat.lt_of_lt_of_le hi hr),h.obj⟩
 obtain ⟨_,_,e,h1,h2,h3⟩:=h.rows
 cases e
 exact ⟨ro,rcap,rfl,Nat.le_trans hr h1,h2,fun i hi=>h3 i (Nat.lt_of_lt_of_le hi hr)⟩
theorem grows_walk (vv:Int) (m wcap:Nat) (wo:Option Addr) (c:Nat->Nat->Int) (o0 o1 o2:Int) (w:World) (g:Gd w) (hpl:PlOk w vv m wo c o0 o1 o2):Calls Tryz.prog 4 #[.agg #[.int .u8 vv,.slice wo m wcap,.int .i8 o0,.int .i8 o1,.int .i8 o2]] w (Ret w (.bool true)):=by
 have HG:=Hi55 g
 have HPL:=Hi55 hpl
 clear g hpl
 go_enter Tryz.func4,Tryz.ntmps4
 by_cases hm6:m<=6
 ·have HM6:=Hi55 hm6;have HFT:Hid (decide (m<=6)=true):=Hi55 (decide_eq_true hm6)
  by_cases hm0:m=0
  ·subst hm0
   go_wp2_with fail
   refine (known7_c _ (HG.out.ext (((Ext.refl w).alloc _)))).mono ?_;rintro e w1 ⟨rfl,e1⟩
   have HX1:Hid (Ext w w1):=Hi55 (((Ext.refl w).alloc _).trans e1)
   have HB0_1:Hid (Blk w1 (w.heap.size) (#[.int .u8 vv,.slice wo 0 wcap,.int .i8 o0,.int .i8 o1,.int .i8 o2]) 26):=Hi55 (((Blk.new' (w:=_) (cs:=#[.int .u8 vv,.slice wo 0 wcap,.int .i8 o0,.int .i8 o1,.int .i8 o2]) (t:=26) (by first|rfl|(simp only [World.size_alloc];done)|(simp only [World.size_alloc];omega)|simp))).ext e1)
   have HGEB0:Hid (w.heap.size<=w.heap.size):=Hi55 (Nat.le_refl _)
   clear e1
   have c0_0:=HB0_1.out.cell 0 rfl
   have c0_1:=HB0_1.out.cell 1 rfl
   have c0_2:=HB0_1.out.cell 2 rfl
   have c0_3:=HB0_1.out.cell 3 rfl
   have c0_4:=HB0_1.out.cell 4 rfl
   go_wp2_with fail
   refine ((HFT.out▸fits7_c _ _ _ _ _ _ _ _)).mono ?_;rintro e w2 ⟨rfl,e2⟩
   have HX2:=Hi55 (HX1.out.trans e2)
   have HB0_2:=Hi55 (HB0_1.out.ext e2)
   clear e2 c0_0 c0_1 c0_2 c0_3 c0_4
   have c0_1:=HB0_2.out.cell 1 rfl
   go_wp2_with fail
   refine (known7_c _ (HG.out.ext (HX2.out))).mono ?_;rintro e w3 ⟨rfl,e3⟩
   have HX3:=Hi55 (HX2.out.trans e3)
   have HB0_3:=Hi55 (HB0_2.out.ext e3)
   clear e3 c0_1
   go_wp2
   go_ret
   exact ⟨rfl,HX3.out⟩
  ·have h0a:¬ m=0:=hm0
   have h0b:¬ ((m:Nat):Int)=0:=by omega
   go_wp2_with fail
   refine (known7_c _ (HG.out.ext (((Ext.refl w).alloc _)))).mono ?_;rintro e w1 ⟨rfl,e1⟩
   have HX1:Hid (Ext w w1):=Hi55 (((Ext.refl w).alloc _).trans e1)
   have HB0_1:Hid (Blk w1 (w.heap.size) (#[.int .u8 vv,.slice wo m wcap,.int .i8 o0,.int .i8 o1,.int .i8 o2]) 26):=Hi55 (((Blk.new' (w:=_) (cs:=#[.int .u8 vv,.slice wo m wcap,.int .i8 o0,.int .i8 o1,.int .i8 o2]) (t:=26) (by first|rfl|(simp only [World.size_alloc];done)|(simp only [World.size_alloc];omega)|simp))).ext e1)
   have HGEB0:Hid (w.heap.size<=w.heap.size):=Hi55 (Nat.le_refl _)
   clear e1
   have c0_0:=HB0_1.out.cell 0 rfl
   have c0_1:=HB0_1.out.cell 1 rfl
   have c0_2:=HB0_1.out.cell 2 rfl
   have c0_3:=HB0_1.out.cell 3 rfl
   have c0_4:=HB0_1.out.cell 4 rfl
   go_wp2_with fail
   refine ((HFT.out▸fits7_c _ _ _ _ _ _ _ _)).mono ?_;rintro e w2 ⟨rfl,e2⟩
   have HX2:=Hi55 (HX1.out.trans e2)
   have HB0_2:=Hi55 (HB0_1.out.ext e2)
   clear e2 c0_0 c0_1 c0_2 c0_3 c0_4
   have c0_1:=HB0_2.out.cell 1 rfl
   go_upto_region 3 with fail
   clear c0_1
   obtain ⟨r,rfl⟩:∃ r,m=r+1:=⟨m-1,by omega⟩
   clear h0a h0b
   have c0_0:=HB0_2.out.cell 0 rfl
   have c0_1:=HB0_2.out.cell 1 rfl
   have c0_2:=HB0_2.out.cell 2 rfl
   have c0_3:=HB0_2.out.cell 3 rfl
   have c0_4:=HB0_2.out.cell 4 rfl
   go_wp2_with fail
   refine (make7 (HPL.out.ext HX2.out) (HG.out.ext (HX2.out)) HM6.out).mono ?_;rintro e w3 ⟨P,ro,rcap,co,ccap,va,rfl,e3,pm_,sm_,pe_,s3_⟩
   have HX3:=Hi55 (HX2.out.trans e3)
   have HB0_3:=Hi55 (HB0_2.out.ext e3)
   clear e3 c0_0 c0_1 c0_2 c0_3 c0_4
   rw [pe_] at pm_ ⊢
   have hcap:r+1<=rcap:=by obtain ⟨_,_,e_,h_,_⟩:=pm_.rows;obtain ⟨_,e2_,e3_⟩:=Value.slice.inj e_;rw [e2_,e3_];exact h_
   have HPM:=Hi55 pm_;have HSM:=Hi55 sm_;have HPE:=Hi55 pe_;have HS3:=Hi55 s3_;clear pm_ sm_ pe_ s3_
   have HM1_3:Hid (Fr w3 w3):=Hi55 (Fr.refl _)
   go_wp2_with fail
   have HGFM1B1:Hid (w3.heap.size<=w3.heap.size):=Hi55 (Nat.le_trans HM1_3.out.out.size (by first|omega|(simp only [];omega)|(simp;omega)))
   refine wp_name (fun W=>Ext w W/\Blk W (w.heap.size) (#[.int .u8 vv,.slice wo (r+1) wcap,.int .i8 o0,.int .i8 o1,.int .i8 o2]) 26/\Fr w3 W/\Blk W (w3.heap.size) (#[.int .i64 (P.n:Int),.slice ro (r+1) rcap,.slice co P.n ccap]) 32) ⟨(HX3.out.alloc _),(HB0_3.out.alloc _),(HM1_3.out.alloc _),(Blk.new' (w:=_) (cs:=#[.int .i64 (P.n:Int),.slice ro (r+1) rcap,.slice co P.n ccap]) (t:=32) (by first|rfl|(simp only [World.size_alloc];done)|(simp only [World.size_alloc];omega)|simp))⟩ ?_
   rintro w4 ⟨e4,bB0_4,bM1_4,bB1_4⟩
   have HX4:=Hi55 e4;have HB0_4:=Hi55 bB0_4;have HM1_4:=Hi55 bM1_4;have HB1_4:=Hi55 bB1_4
   have HGEB1:Hid (w.heap.size<=w3.heap.size):=Hi55 (HX3.out.size)
   clear e4 bB0_4 bM1_4 bB1_4
   go_wp2_with fail
   refine region_e [.val (.agg #[.int .i64 (P.n:Int),.slice ro (r+1) rcap,.slice co P.n ccap]),.val (.agg #[.int .i64 (P.n:Int),.slice ro (r+1) rcap,.slice co P.n ccap]),.eff,.eff,.eff,.eff] (fun L g W=>Fr w3 W/\(L 2=true->∃ b,g 2 = .pointer (some ⟨b,0,none⟩)/\w4.heap.size<=b/\(if L 4=true then Blk W b #[.int .i64 (P.n:Int),.slice ro (r+1) rcap,.slice co P.n ccap] 32 else Blk W b #[.int .i64 0,.slice none 0 0,.slice none 0 0] 32))/\(L 3=true->∃ b,g 3 = .pointer (some ⟨b,0,none⟩)/\w4.heap.size<=b/\(if L 5=true then Blk W b #[.int .i64 (P.n:Int),.slice ro (r+1) rcap,.slice co P.n ccap] 32 else Blk W b #[.int .i64 0,.slice none 0 0,.slice none 0 0] 32))/\(L 2=true->L 3=true->g 2≠g 3)) (S:=fun _=>False) (by kernel_rfl) (by kernel_rfl) (by kernel_rfl) (Mv.refl HX4.out (fun k h=>h.elim)) ?_ ?_ ?_ ?_ (fun gv_ w5 hm_ he_=>?_)
   ·exact fun g=>⟨HM1_4.out.drew,fun h=>absurd h (by decide),fun h=>absurd h (by decide),fun h=>absurd h (by decide)⟩
   ·exact fun L g W W1 h e=>⟨h.1.ext e,fun a=>let ⟨b,x,y,z⟩:=h.2.1 a;⟨b,x,y,ite_ext z (fun h=>h.ext e) (fun h=>h.ext e)⟩,fun a=>let ⟨b,x,y,z⟩:=h.2.2.1 a;⟨b,x,y,ite_ext z (fun h=>h.ext e) (fun h=>h.ext e)⟩,h.2.2.2⟩
   ·intro i v L g W hi h
    have n2_:i≠2:=fun e=>by subst e;exact absurd (show false=true from hi) (by decide)
    have n3_:i≠3:=fun e=>by subst e;exact absurd (show false=true from hi) (by decide)
    have n4_:i≠4:=fun e=>by subst e;exact absurd (show false=true from hi) (by decide)
    have n5_:i≠5:=fun e=>by subst e;exact absurd (show false=true from hi) (by decide)
    simp only [up_ne n2_,ug_ne n2_,up_ne n3_,ug_ne n3_,up_ne n4_,ug_ne n4_,up_ne n5_,ug_ne n5_];exact h
   ·skip
    refine RV (fun A_ hs_ K_ hK_=>?_) ?_;· have q3_:=(hs_.old 3:A_.tmps[3]?.getD undef = .pointer (some ⟨w3.heap.size,0,none⟩));have c1_0:=(hs_.mv.blk HB1_4.out (fun h=>h)).cell 0 rfl;have c1_1:=(hs_.mv.blk HB1_4.out (fun h=>h)).cell 1 rfl;have c1_2:=(hs_.mv.blk HB1_4.out (fun h=>h)).cell 2 rfl;go_simp;exact fin_ hK_
    refine RV (fun A_ hs_ K_ hK_=>?_) ?_;· have q3_:=(hs_.old 3:A_.tmps[3]?.getD undef = .pointer (some ⟨w3.heap.size,0,none⟩));have c1_0:=(hs_.mv.blk HB1_4.out (fun h=>h)).cell 0 rfl;have c1_1:=(hs_.mv.blk HB1_4.out (fun h=>h)).cell 1 rfl;have c1_2:=(hs_.mv.blk HB1_4.out (fun h=>h)).cell 2 rfl;go_simp;exact fin_ hK_
    refine RnEL.cons (fun L_ g_ A_ W_ hs_=>?_) ?_
    ·refine RnE.eff fun K_ hK_=>?_;have n4_:=hs_.no 4 (by decide) (by kernel_rfl);have n2_:=hs_.not;have e_:=hs_.e;simp only [n4_,n2_,Bool.false_eq_true,if_false,if_true] at e_;have HN_:=Hi55 (n4_);clear n4_ n2_;have HE_:=Hi55 e_;have HM_:=Hi55 hs_.mv;clear e_;go_simp;exact hK_.out _ _ (HM_.out.alloc _) (by simp only [up_at,ug_at,up_ne (show (2:Nat)≠3 by decide),ug_ne (show (2:Nat)≠3 by decide),up_ne (show (2:Nat)≠4 by decide),ug_ne (show (2:Nat)≠4 by decide),up_ne (show (2:Nat)≠5 by decide),ug_ne (show (2:Nat)≠5 by decide),HN_.out,Bool.false_eq_true,if_false,if_true];exact ⟨HE_.out.1.alloc _,fun _=>⟨_,rfl,HM_.out.size,Blk.new _ _ _⟩,fun h3_=>let ⟨b,x,y,z⟩:=HE_.out.2.2.1 h3_;⟨b,x,y,ite_ext z (fun h=>h.alloc _) (fun h=>h.alloc _)⟩,fun _ h3_ e=>by obtain ⟨b,x,y,z⟩:=HE_.out.2.2.1 h3_;have l_:=ite_lt z (fun h=>h.lt) (fun h=>h.lt);rw [x] at e;first|(simp at e;omega)|simp at e⟩)
    refine RnEL.cons (fun L_ g_ A_ W_ hs_=>?_) ?_
    ·refine RnE.eff fun K_ hK_=>?_;have n5_:=hs_.no 5 (by decide) (by kernel_rfl);have n3_:=hs_.not;have e_:=hs_.e;simp only [n5_,n3_,Bool.false_eq_true,if_false,if_true] at e_;have HN_:=Hi55 (n5_);clear n5_ n3_;have HE_:=Hi55 e_;have HM_:=Hi55 hs_.mv;clear e_;go_simp;exact hK_.out _ _ (HM_.out.alloc _) (by simp only [up_at,ug_at,up_ne (show (3:Nat)≠2 by decide),ug_ne (show (3:Nat)≠2 by decide),up_ne (show (3:Nat)≠4 by decide),ug_ne (show (3:Nat)≠4 by decide),up_ne (show (3:Nat)≠5 by decide),ug_ne (show (3:Nat)≠5 by decide),HN_.out,Bool.false_eq_true,if_false,if_true];exact ⟨HE_.out.1.alloc _,fun h3_=>let ⟨b,x,y,z⟩:=HE_.out.2.1 h3_;⟨b,x,y,ite_ext z (fun h=>h.alloc _) (fun h=>h.alloc _)⟩,fun _=>⟨_,rfl,HM_.out.size,Blk.new _ _ _⟩,fun h3_ _ e=>by obtain ⟨b,x,y,z⟩:=HE_.out.2.1 h3_;have l_:=ite_lt z (fun h=>h.lt) (fun h=>h.lt);rw [x] at e;first|(simp at e;omega)|simp at e⟩)
    refine RnEL.cons (fun L_ g_ A_ W_ hs_=>?_) ?_
    ·have q4_:=hs_.eff 2;have q29_:=hs_.val 0;refine RnE.eff fun K_ hK_=>?_;have y2_:=hs_.yes 2 (by kernel_rfl);have n4_:=hs_.not;have e_:=hs_.e;simp only [y2_,n4_,Bool.false_eq_true,if_false,if_true] at e_;obtain ⟨b_,g_eq,hb_,hB_⟩:=e_.2.1 trivial;rw [g_eq] at q4_;have HG_:=Hi55 g_eq;have HB_:=Hi55 hB_;have HL_:=Hi55 hb_;clear g_eq hb_ hB_;have c_0:=HB_.out.cell 0 rfl;have f_0:=HB_.out.free 0;have c_1:=HB_.out.cell 1 rfl;have f_1:=HB_.out.free 1;have c_2:=HB_.out.cell 2 rfl;have f_2:=HB_.out.free 2;have HN_:=Hi55 (y2_);clear y2_ n4_;have HE_:=Hi55 e_;have HM_:=Hi55 hs_.mv;clear e_;go_simp;exact hK_.out undef _ (((HM_.out.setCell (Or.inr HL_.out) _).setCell (Or.inr HL_.out) _).setCell (Or.inr HL_.out) _) (by simp only [up_at,ug_at,up_ne (show (4:Nat)≠2 by decide),ug_ne (show (4:Nat)≠2 by decide),up_ne (show (4:Nat)≠3 by decide),ug_ne (show (4:Nat)≠3 by decide),up_ne (show (4:Nat)≠5 by decide),ug_ne (show (4:Nat)≠5 by decide),HN_.out,Bool.false_eq_true,if_false,if_true];exact ⟨((HE_.out.1.other (a:=⟨b_,0,none⟩) _ (Nat.le_trans HM1_4.out.out.size HL_.out)).other (a:=⟨b_,1,none⟩) _ (Nat.le_trans HM1_4.out.out.size HL_.out)).other (a:=⟨b_,2,none⟩) _ (Nat.le_trans HM1_4.out.out.size HL_.out),fun _=>⟨b_,HG_.out,HL_.out,((HB_.out.set 0 _).set 1 _).set 2 _⟩,fun h3_=>let ⟨b,x,y,z⟩:=HE_.out.2.2.1 h3_;⟨b,x,y,ite_ext z (fun h=>((h.other (a:=⟨b_,0,none⟩) _ (fun e=>HE_.out.2.2.2 trivial h3_ (by rw [HG_.out,x,e]))).other (a:=⟨b_,1,none⟩) _ (fun e=>HE_.out.2.2.2 trivial h3_ (by rw [HG_.out,x,e]))).other (a:=⟨b_,2,none⟩) _ (fun e=>HE_.out.2.2.2 trivial h3_ (by rw [HG_.out,x,e]))) (fun h=>((h.other (a:=⟨b_,0,none⟩) _ (fun e=>HE_.out.2.2.2 trivial h3_ (by rw [HG_.out,x,e]))).other (a:=⟨b_,1,none⟩) _ (fun e=>HE_.out.2.2.2 trivial h3_ (by rw [HG_.out,x,e]))).other (a:=⟨b_,2,none⟩) _ (fun e=>HE_.out.2.2.2 trivial h3_ (by rw [HG_.out,x,e])))⟩,HE_.out.2.2.2⟩)
    refine RnEL.cons (fun L_ g_ A_ W_ hs_=>?_) ?_
    ·have q5_:=hs_.eff 3;have q30_:=hs_.val 1;refine RnE.eff fun K_ hK_=>?_;have y3_:=hs_.yes 3 (by kernel_rfl);have n5_:=hs_.not;have e_:=hs_.e;simp only [y3_,n5_,Bool.false_eq_true,if_false,if_true] at e_;obtain ⟨b_,g_eq,hb_,hB_⟩:=e_.2.2.1 trivial;rw [g_eq] at q5_;have HG_:=Hi55 g_eq;have HB_:=Hi55 hB_;have HL_:=Hi55 hb_;clear g_eq hb_ hB_;have c_0:=HB_.out.cell 0 rfl;have f_0:=HB_.out.free 0;have c_1:=HB_.out.cell 1 rfl;have f_1:=HB_.out.free 1;have c_2:=HB_.out.cell 2 rfl;have f_2:=HB_.out.free 2;have HN_:=Hi55 (y3_);clear y3_ n5_;have HE_:=Hi55 e_;have HM_:=Hi55 hs_.mv;clear e_;go_simp;exact hK_.out undef _ (((HM_.out.setCell (Or.inr HL_.out) _).setCell (Or.inr HL_.out) _).setCell (Or.inr HL_.out) _) (by simp only [up_at,ug_at,up_ne (show (5:Nat)≠2 by decide),ug_ne (show (5:Nat)≠2 by decide),up_ne (show (5:Nat)≠3 by decide),ug_ne (show (5:Nat)≠3 by decide),up_ne (show (5:Nat)≠4 by decide),ug_ne (show (5:Nat)≠4 by decide),HN_.out,Bool.false_eq_true,if_false,if_true];exact ⟨((HE_.out.1.other (a:=⟨b_,0,none⟩) _ (Nat.le_trans HM1_4.out.out.size HL_.out)).other (a:=⟨b_,1,none⟩) _ (Nat.le_trans HM1_4.out.out.size HL_.out)).other (a:=⟨b_,2,none⟩) _ (Nat.le_trans HM1_4.out.out.size HL_.out),fun h3_=>let ⟨b,x,y,z⟩:=HE_.out.2.1 h3_;⟨b,x,y,ite_ext z (fun h=>((h.other (a:=⟨b_,0,none⟩) _ (fun e=>HE_.out.2.2.2 h3_ trivial (by rw [HG_.out,x,e]))).other (a:=⟨b_,1,none⟩) _ (fun e=>HE_.out.2.2.2 h3_ trivial (by rw [HG_.out,x,e]))).other (a:=⟨b_,2,none⟩) _ (fun e=>HE_.out.2.2.2 h3_ trivial (by rw [HG_.out,x,e]))) (fun h=>((h.other (a:=⟨b_,0,none⟩) _ (fun e=>HE_.out.2.2.2 h3_ trivial (by rw [HG_.out,x,e]))).other (a:=⟨b_,1,none⟩) _ (fun e=>HE_.out.2.2.2 h3_ trivial (by rw [HG_.out,x,e]))).other (a:=⟨b_,2,none⟩) _ (fun e=>HE_.out.2.2.2 h3_ trivial (by rw [HG_.out,x,e])))⟩,fun _=>⟨b_,HG_.out,HL_.out,((HB_.out.set 0 _).set 1 _).set 2 _⟩,HE_.out.2.2.2⟩)
    exact RnEL.nil
   simp only [fse,Ke.value,puts,Act.put,List.setIfInBounds_toArray,List.set_cons_zero,List.set_cons_succ,Nat.reduceAdd]
   have HX5:Hid (Ext w w5):=Hi55 hm_.ext
   have HB0_5:=Hi55 (hm_.blk HB0_4.out (fun h=>h))
   have HB1_5:=Hi55 (hm_.blk HB1_4.out (fun h=>h))
   have h_:=he_;simp only [if_true] at h_
   obtain ⟨a1_,a2_,a3_,a4_⟩:=h_
   obtain ⟨b4,g4_,l4_,h4_⟩:=a2_ trivial
   obtain ⟨b5,g5_,l5_,h5_⟩:=a3_ trivial
   have HM1_5:=Hi55 a1_;have HB94_5:=Hi55 h4_;have HB95_5:=Hi55 h5_
   have HN45:Hid (b4≠b5):=Hi55 (fun e=>a4_ trivial trivial (by rw [g4_,g5_,e]))
   rw [g4_,g5_]
   have HGEB94:Hid (w.heap.size<=b4):=Hi55 (Nat.le_trans HX4.out.size l4_);have HGFM1B94:Hid (w3.heap.size<=b4):=Hi55 (Nat.le_trans HM1_4.out.out.size l4_)
   have HGEB95:Hid (w.heap.size<=b5):=Hi55 (Nat.le_trans HX4.out.size l5_);have HGFM1B95:Hid (w3.heap.size<=b5):=Hi55 (Nat.le_trans HM1_4.out.out.size l5_)
   have HNB0B94:Hid (w.heap.size≠b4):=Hi55 (Nat.ne_of_lt (Nat.lt_of_lt_of_le HB0_4.out.lt l4_))
   have HNB0B95:Hid (w.heap.size≠b5):=Hi55 (Nat.ne_of_lt (Nat.lt_of_lt_of_le HB0_4.out.lt l5_))
   have HNB1B94:Hid (w3.heap.size≠b4):=Hi55 (Nat.ne_of_lt (Nat.lt_of_lt_of_le HB1_4.out.lt l4_))
   have HNB1B95:Hid (w3.heap.size≠b5):=Hi55 (Nat.ne_of_lt (Nat.lt_of_lt_of_le HB1_4.out.lt l5_))
   clear a1_ a2_ a3_ a4_ g4_ g5_ l4_ l5_ h4_ h5_
   clear hm_ he_
   have c1_1:=HB1_5.out.cell 1 rfl
   have c94_1:=HB94_5.out.cell 1 rfl
   have f94_1:=HB94_5.out.free 1
   go_upto_region 6 with fail
   refine wp_name (fun W=>Ext w W/\Blk W (w.heap.size) (#[.int .u8 vv,.slice wo (r+1) wcap,.int .i8 o0,.int .i8 o1,.int .i8 o2]) 26/\Fr w3 W/\Blk W (w3.heap.size) (#[.int .i64 (P.n:Int),.slice ro (r+1) rcap,.slice co P.n ccap]) 32/\Blk W (b4) (#[.int .i64 (P.n:Int),.slice ro r rcap,.slice co P.n ccap]) 32/\Blk W (b5) (#[.int .i64 (P.n:Int),.slice ro (r+1) rcap,.slice co P.n ccap]) 32) ⟨(HX5.out.setCell (HGEB94.out) _),(HB0_5.out.other (a:=⟨b4,1,none⟩) _ (HNB0B94.out)),(HM1_5.out.other (a:=⟨b4,1,none⟩) _ (HGFM1B94.out)),(HB1_5.out.other (a:=⟨b4,1,none⟩) _ (HNB1B94.out)),(HB94_5.out.set 1 (.slice ro r rcap)),(HB95_5.out.other (a:=⟨b4,1,none⟩) _ (fun h=>HN45.out h.symm))⟩ ?_
   rintro w6 ⟨e6,bB0_6,bM1_6,bB1_6,bB94_6,bB95_6⟩
   have HX6:=Hi55 e6;have HB0_6:=Hi55 bB0_6;have HM1_6:=Hi55 bM1_6;have HB1_6:=Hi55 bB1_6;have HB94_6:=Hi55 bB94_6;have HB95_6:=Hi55 bB95_6
   clear e6 bB0_6 bM1_6 bB1_6 bB94_6 bB95_6 c1_1 c94_1 f94_1
   have l95_:=HB95_6.out.lt
   have c95_2:=HB95_6.out.cell 2 rfl
   have f95_2:=HB95_6.out.free 2
   go_wp2_with fail
   have HGFM1B2:Hid (w3.heap.size<=w6.heap.size):=Hi55 (Nat.le_trans HM1_6.out.out.size (by first|omega|(simp only [];omega)|(simp;omega)))
   refine wp_name (fun W=>Ext w W/\Blk W (w.heap.size) (#[.int .u8 vv,.slice wo (r+1) wcap,.int .i8 o0,.int .i8 o1,.int .i8 o2]) 26/\Fr w3 W/\Blk W (w3.heap.size) (#[.int .i64 (P.n:Int),.slice ro (r+1) rcap,.slice co P.n ccap]) 32/\Blk W (b4) (#[.int .i64 (P.n:Int),.slice ro r rcap,.slice co P.n ccap]) 32/\Blk W (b5) (#[.int .i64 (P.n:Int),.slice ro (r+1) rcap,.slice (some ⟨w6.heap.size,0,none⟩) 0 0]) 32/\Blk W (w6.heap.size) (#[]) 34) ⟨((HX6.out.setCell (HGEB95.out) _).alloc _),((HB0_6.out.other (a:=⟨b5,2,none⟩) _ (HNB0B95.out)).alloc _),((HM1_6.out.other (a:=⟨b5,2,none⟩) _ (HGFM1B95.out)).alloc _),((HB1_6.out.other (a:=⟨b5,2,none⟩) _ (HNB1B95.out)).alloc _),((HB94_6.out.other (a:=⟨b5,2,none⟩) _ (HN45.out)).alloc _),((HB95_6.out.set 2 (.slice (some ⟨w6.heap.size,0,none⟩) 0 0)).alloc _),(Blk.new' (w:=_) (cs:=#[]) (t:=34) (by first|rfl|(simp only [World.size_alloc];done)|(simp only [World.size_alloc];omega)|simp))⟩ ?_
   rintro w7 ⟨e7,bB0_7,bM1_7,bB1_7,bB94_7,bB95_7,bB2_7⟩
   have HX7:=Hi55 e7;have HB0_7:=Hi55 bB0_7;have HM1_7:=Hi55 bM1_7;have HB1_7:=Hi55 bB1_7;have HB94_7:=Hi55 bB94_7;have HB95_7:=Hi55 bB95_7;have HB2_7:=Hi55 bB2_7
   have HGEB2:Hid (w.heap.size<=w6.heap.size):=Hi55 (HX6.out.size)
   clear e7 bB0_7 bM1_7 bB1_7 bB94_7 bB95_7 bB2_7 c95_2 f95_2
   have hn3:=HSM.out.n
   have hoo:=HPM.out.obj
   obtain ⟨_,_,eo_,_,_,hoo⟩:=hoo
   cases eo_
   have HOO:=Hi55 hoo;clear hoo
   go_wp2_with fail
   go_loopw [6] (fun x0_ wx=>∃ k:Nat,x0_ = .int .i64 k/\k<=P.n/\Hid (Ext w wx/\Blk wx (w.heap.size) (#[.int .u8 vv,.slice wo (r+1) wcap,.int .i8 o0,.int .i8 o1,.int .i8 o2]) 26/\Fr w3 wx/\Blk wx (w3.heap.size) (#[.int .i64 (P.n:Int),.slice ro (r+1) rcap,.slice co P.n ccap]) 32/\Blk wx (b4) (#[.int .i64 (P.n:Int),.slice ro r rcap,.slice co P.n ccap]) 32/\(∃ vr,Blk wx (b5) #[.int .i64 (P.n:Int),.slice ro (r+1) rcap,vr] 32/\Osl w3 wx 34 1 vr k (fun j => .string (qs (3*P.C j)))))) (fun x0_ _=>P.n-(intOf x0_).toNat)
   case atStart=>exact ⟨0,rfl,Nat.zero_le _,Hi55 ⟨HX7.out,HB0_7.out,HM1_7.out,HB1_7.out,HB94_7.out,⟨_,HB95_7.out,Osl.empty HGFM1B2.out HB2_7.out⟩⟩⟩
   case round =>
    rename World=>w8
    obtain ⟨k,rfl,hkk,HH⟩:=hrel
    have HX8:=Hi55 HH.out.1
    have HB0_8:=Hi55 HH.out.2.1
    have HM1_8:=Hi55 HH.out.2.2.1
    have HB1_8:=Hi55 HH.out.2.2.2.1
    have HB94_8:=Hi55 HH.out.2.2.2.2.1
    obtain ⟨vr,a1_,a2_⟩:=HH.out.2.2.2.2.2
    obtain ⟨la,lc,rfl⟩:=a2_.lsl
    have HB95_8:=Hi55 a1_;have HOL_8:=Hi55 a2_;clear a1_ a2_
    clear HH
    by_cases hlt:k<P.n
    ·have hlt2:(k:Int)<((P.n:Nat):Int):=by omega
     obtain ⟨ca,rfl,zc_⟩:=HOO.out k hlt
     have HCc:=Hi55 zc_;clear zc_
     have c1_0:=HB1_8.out.cell 0 rfl
     go_wp2_with fail
     clear c1_0
     go_wp2_with fail
     refine region_e [.val (.pointer (some ⟨b5,2,none⟩)),.val (.slice la k lc),.val (.pointer (some ⟨w3.heap.size,2,none⟩)),.val (.slice (some ca) P.n ccap),.val (.int .i64 (k:Int)),.val (.pointer (some (ca.add k))),.val (.string (qs (P.C k))),.val (.string (qs ((3:Rat)*P.C k))),.eff,.eff,.val (.pointer (some ⟨b5,2,none⟩)),.eff] (fun L g W=>Fr w3 W/\(L 8=true->∃ b,g 8 = .slice (some ⟨b,0,none⟩) 1 1/\(L 9=false->Blk W b #[.string (qs ((3:Rat)*P.C k))] 34))/\(if L 9=true then Osl w3 W 34 1 (g 9) (k+1) (app (k*1) (fun j => .string (qs (3*P.C j))) (fun _ => .string (qs ((3:Rat)*P.C k)))) else Osl w3 W 34 1 (.slice la k lc) k (fun j => .string (qs (3*P.C j))))/\(if L 11=true then Blk W (b5) #[.int .i64 (P.n:Int),.slice ro (r+1) rcap,g 9] 32 else Blk W (b5) #[.int .i64 (P.n:Int),.slice ro (r+1) rcap,.slice la k lc] 32)) (S:=fun q=>vob (.slice la k lc) q∨q=b5) (by kernel_rfl) (by kernel_rfl) (by kernel_rfl) (Mv.refl HX8.out (fun q h=>h.elim (fun a=>Nat.le_trans HX3.out.size (HOL_8.out.lt a).1) (fun e=>e▸HGEB95.out))) ?_ ?_ ?_ ?_ (fun gv_ w9 hm_ he_=>?_)
     ·exact fun g=>⟨HM1_8.out.drew,fun h=>absurd h (by decide),(by rw [if_neg (by decide)];exact HOL_8.out.drew),(by rw [if_neg (by decide)];exact HB95_8.out.drew)⟩
     ·exact fun L g W W1 h e=>⟨h.1.ext e,fun a=>let ⟨b,x,y⟩:=h.2.1 a;⟨b,x,fun z=>(y z).ext e⟩,ite_ext h.2.2.1 (fun h=>h.ext e) (fun h=>h.ext e),ite_ext h.2.2.2 (fun h=>h.ext e) (fun h=>h.ext e)⟩
     ·intro i v L g W hi h
      have n8_:i≠8:=fun e=>by subst e;exact absurd (show false=true from hi) (by decide)
      have n9_:i≠9:=fun e=>by subst e;exact absurd (show false=true from hi) (by decide)
      have n11_:i≠11:=fun e=>by subst e;exact absurd (show false=true from hi) (by decide)
      simp only [up_ne n8_,ug_ne n8_,up_ne n9_,ug_ne n9_,up_ne n11_,ug_ne n11_];exact h
     ·skip
      refine RV (fun A_ hs_ K_ hK_=>?_) ?_;· have q5_:=(hs_.old 5:A_.tmps[5]?.getD undef = .pointer (some ⟨b5,0,none⟩));go_simp;exact fin_ hK_
      refine RV (fun A_ hs_ K_ hK_=>?_) ?_;· have q47_:=hs_.val 0;have n_:=hs_.no 11 (by decide) (by kernel_rfl);have ep_:=hs_.e.2.2.2;rw [if_neg (by rw [n_];decide)] at ep_;have cp_2:=ep_.cell 2 rfl;clear n_ ep_;go_simp;exact fin_ hK_
      refine RV (fun A_ hs_ K_ hK_=>?_) ?_;· have q3_:=(hs_.old 3:A_.tmps[3]?.getD undef = .pointer (some ⟨w3.heap.size,0,none⟩));go_simp;exact fin_ hK_
      refine RV (fun A_ hs_ K_ hK_=>?_) ?_;· have q49_:=hs_.val 2;have c1_2:=(hs_.mv.blk HB1_8.out (fun h=>h.elim (HOL_8.out.not_vob HB1_8.out (by decide)) (fun e=>(HNB1B95.out) e))).cell 2 rfl;go_simp;exact fin_ hK_
      refine RV (fun A_ hs_ K_ hK_=>?_) ?_;· have q6_:=(hs_.old 6:A_.tmps[6]?.getD undef = .int .i64 (k:Int));go_simp;exact fin_ hK_
      refine RV (fun A_ hs_ K_ hK_=>?_) ?_;· have q50_:=hs_.val 3;have q51_:=hs_.val 4;go_simp;exact fin_ hK_
      refine RV (fun A_ hs_ K_ hK_=>?_) ?_;· have q52_:=hs_.val 5;have cc_k:=keepA hs_.e.1.out (HCc.out);go_simp;exact fin_ hK_
      refine RV (fun A_ hs_ K_ hK_=>?_) ?_;· have q53_:=hs_.val 6;go_simp;refine (p3_three (P.C k) _ (HG.out.ext hs_.mv.ext) ((HSM.out.qc k hlt).mono (by omega))).mono ?_;rintro e W9_ ⟨rfl,e9_⟩;exact hK_.out _ e9_
      refine RnEL.cons (fun L_ g_ A_ W_ hs_=>?_) ?_
      ·have q54_:=hs_.val 7;refine RnE.eff fun K_ hK_=>?_;have n9_:=hs_.no 9 (by decide) (by kernel_rfl);have n11_:=hs_.no 11 (by decide) (by kernel_rfl);have n8_:=hs_.not;have e_:=hs_.e;simp only [n9_,n11_,n8_,Bool.false_eq_true,if_false,if_true] at e_;have HN_:=Hi55 (And.intro n9_ (n11_));clear n9_ n11_ n8_;have HE_:=Hi55 e_;have HM_:=Hi55 hs_.mv;clear e_;go_simp;exact hK_.out _ _ (HM_.out.alloc _) (by simp only [up_at,ug_at,up_ne (show (8:Nat)≠9 by decide),ug_ne (show (8:Nat)≠9 by decide),up_ne (show (8:Nat)≠11 by decide),ug_ne (show (8:Nat)≠11 by decide),HN_.out.1,HN_.out.2,Bool.false_eq_true,if_false,if_true];exact ⟨HE_.out.1.alloc _,fun _=>⟨_,rfl,fun _=>Blk.new _ _ _⟩,HE_.out.2.2.1.alloc _,HE_.out.2.2.2.alloc _⟩)
      refine RnEL.cons (fun L_ g_ A_ W_ hs_=>?_) ?_
      ·have q48_:=hs_.val 1;have q55_:=hs_.eff 8;refine RnE.eff fun K_ hK_=>?_;have y8_:=hs_.yes 8 (by kernel_rfl);have n11_:=hs_.no 11 (by decide) (by kernel_rfl);have n9_:=hs_.not;have e_:=hs_.e;simp only [y8_,n11_,n9_,Bool.false_eq_true,if_false,if_true] at e_;obtain ⟨b_,g_eq,hb_⟩:=e_.2.1 trivial;rw [g_eq] at q55_;have HG_:=Hi55 g_eq;have HB_:=Hi55 (hb_ trivial);clear g_eq hb_;have HN_:=Hi55 (And.intro y8_ (n11_));clear y8_ n11_ n9_;have HE_:=Hi55 e_;have HM_:=Hi55 hs_.mv;clear e_;refine op_append (X:=w3) (H:=(fun _ => .string (qs ((3:Rat)*P.C k)))) (ad:=⟨b_,0,none⟩) (m:=1) (c:=1) (v:=.slice la k lc) rfl (by go_simp) (by go_simp) under_s info_s rfl HE_.out.1.out HE_.out.2.2.1 (fun _=>by decide) (fun j hj=>by obtain rfl:j=0:=(by omega);exact blk_add HB_.out rfl) (fun _ _=>rfl) (by unfold maxLen;omega) (by omega) (fun v_ W9_ hA_=>?_);exact hK_.out v_ W9_ (HM_.out.comp (hA_.mv.down HX3.out) (fun q h=>Or.inl (Or.inl h))) (by simp only [up_at,ug_at,up_ne (show (9:Nat)≠8 by decide),ug_ne (show (9:Nat)≠8 by decide),up_ne (show (9:Nat)≠11 by decide),ug_ne (show (9:Nat)≠11 by decide),HN_.out.1,HN_.out.2,Bool.false_eq_true,if_false,if_true];exact ⟨⟨hA_.mv.ext⟩,fun _=>⟨b_,HG_.out,(fun h=>by cases h)⟩,hA_.own,hA_.mv.blk HE_.out.2.2.2 (HE_.out.2.2.1.not_vob HE_.out.2.2.2 (by decide))⟩)
      refine RV (fun A_ hs_ K_ hK_=>?_) ?_;· have q5_:=(hs_.old 5:A_.tmps[5]?.getD undef = .pointer (some ⟨b5,0,none⟩));go_simp;exact fin_ hK_
      refine RnEL.cons (fun L_ g_ A_ W_ hs_=>?_) ?_
      ·have q57_:=hs_.val 10;have q56_:=hs_.eff 9;refine RnE.eff fun K_ hK_=>?_;have y8_:=hs_.yes 8 (by kernel_rfl);have y9_:=hs_.yes 9 (by kernel_rfl);have n11_:=hs_.not;have e_:=hs_.e;simp only [y8_,y9_,n11_,Bool.false_eq_true,if_false,if_true] at e_;obtain ⟨a_,cc_,es_⟩:=e_.2.2.1.lsl;rw [es_] at e_ q56_;have HES:=Hi55 es_;clear es_;have c_:=e_.2.2.2.cell 2 rfl;have f_:=e_.2.2.2.free 2;have HN_:=Hi55 (And.intro y8_ (y9_));clear y8_ y9_ n11_;have HE_:=Hi55 e_;have HM_:=Hi55 hs_.mv;clear e_;go_simp;exact hK_.out undef _ (HM_.out.setCell (Or.inl (Or.inr rfl)) _) (by simp only [up_at,ug_at,up_ne (show (11:Nat)≠8 by decide),ug_ne (show (11:Nat)≠8 by decide),up_ne (show (11:Nat)≠9 by decide),ug_ne (show (11:Nat)≠9 by decide),HN_.out.1,HN_.out.2,HES.out,Bool.false_eq_true,if_false,if_true];exact ⟨HE_.out.1.other _ HGFM1B95.out,fun _=>let ⟨b,x,_⟩:=HE_.out.2.1 trivial;⟨b,x,(fun h=>by cases h)⟩,HE_.out.2.2.1.other _ (HE_.out.2.2.1.not_vob HE_.out.2.2.2 (by decide)),HE_.out.2.2.2.set 2 _⟩)
      exact RnEL.nil
     simp only [fse,Ke.value,puts,Act.put,List.setIfInBounds_toArray,List.set_cons_zero,List.set_cons_succ,Nat.reduceAdd]
     have HX9:Hid (Ext w w9):=Hi55 hm_.ext
     have HB0_9:=Hi55 (hm_.blk HB0_8.out (fun h=>h.elim (HOL_8.out.not_vob HB0_8.out (by decide)) (fun e=>(HNB0B95.out) e)))
     have HB1_9:=Hi55 (hm_.blk HB1_8.out (fun h=>h.elim (HOL_8.out.not_vob HB1_8.out (by decide)) (fun e=>(HNB1B95.out) e)))
     have HB94_9:=Hi55 (hm_.blk HB94_8.out (fun h=>h.elim (HOL_8.out.not_vob HB94_8.out (by decide)) (fun e=>(HN45.out) e)))
     have h_:=he_;simp only [if_true] at h_
     obtain ⟨vr2,ev_⟩:∃ v,gv_ 9=v:=⟨_,rfl⟩
     rw [ev_] at h_
     have HM1_9:=Hi55 h_.1;have HOL_9:=Hi55 (osl_app h_.2.2.1 (fun i hi=>by obtain rfl:i=0:=(by omega);show _=Value.string (qs (3*P.C (k*1+0)));rw [Nat.mul_one,Nat.add_zero]));have HB95_9:=Hi55 h_.2.2.2;clear h_ ev_
     clear hm_ he_
     go_wp2_with fail
     go_roundw
     case rel=>exact ⟨k+1,by go_num,by omega,Hi55 ⟨HX9.out,HB0_9.out,HM1_9.out,HB1_9.out,HB94_9.out,⟨_,HB95_9.out,HOL_9.out⟩⟩⟩
     case measure=>simp [intOf];omega
    ·have hk2:k=P.n:=by omega
     have hge:¬ (k:Int)<((P.n:Nat):Int):=by omega
     have HKN:Hid (k=P.n):=Hi55 hk2
     have hol_:=HOL_8.out;rw [hk2] at hol_;have HOLn:=Hi55 hol_;clear hol_
     have hpb_:=HB95_8.out;rw [hk2] at hpb_;have HB95n:=Hi55 hpb_;clear hpb_
     have c1_0:=HB1_8.out.cell 0 rfl
     have c1_1:=HB1_8.out.cell 1 rfl
     have c1_2:=HB1_8.out.cell 2 rfl
     go_wp2_with fail
     refine (min_sm (HG.out.ext (HX8.out)) (HPM.out.ext HM1_8.out.out) HSM.out).mono ?_;rintro e w9 ⟨v_,rfl,e9,sv_⟩
     have HX9:=Hi55 (HX8.out.trans e9)
     have HB0_9:=Hi55 (HB0_8.out.ext e9)
     have HM1_9:=Hi55 (HM1_8.out.ext e9)
     have HB1_9:=Hi55 (HB1_8.out.ext e9)
     have HB94_9:=Hi55 (HB94_8.out.ext e9)
     have HB95_9:=Hi55 (HB95n.out.ext e9)
     have HOL_9:=Hi55 (HOLn.out.ext e9)
     clear e9 c1_0 c1_1 c1_2
     obtain ⟨ka,xa,a1o,a1m,a1c,a2o,a2m,a2c,a3o,a3m,a3c,rfl⟩:=sv_.sh
     have HSa:=Hi55 sv_;clear sv_
     go_upto_region 12 with fail
     have HGFM1B3:Hid (w3.heap.size<=w9.heap.size):=Hi55 (Nat.le_trans HM1_9.out.out.size (by first|omega|(simp only [];omega)|(simp;omega)))
     refine wp_name (fun W=>Ext w W/\Blk W (w.heap.size) (#[.int .u8 vv,.slice wo (r+1) wcap,.int .i8 o0,.int .i8 o1,.int .i8 o2]) 26/\Fr w3 W/\Blk W (w3.heap.size) (#[.int .i64 (P.n:Int),.slice ro (r+1) rcap,.slice co P.n ccap]) 32/\Blk W (b4) (#[.int .i64 (P.n:Int),.slice ro r rcap,.slice co P.n ccap]) 32/\Blk W (b5) (#[.int .i64 (P.n:Int),.slice ro (r+1) rcap,.slice la P.n lc]) 32/\Osl w3 W 34 1 (.slice la P.n lc) P.n ((fun j => .string (qs (3*P.C j))))/\Blk W (w9.heap.size) (#[.int .i64 ka,.string xa,.slice a1o a1m a1c,.slice a2o a2m a2c,.slice a3o a3m a3c]) 42) ⟨(HX9.out.alloc _),(HB0_9.out.alloc _),(HM1_9.out.alloc _),(HB1_9.out.alloc _),(HB94_9.out.alloc _),(HB95_9.out.alloc _),(HOL_9.out.alloc _),(Blk.new' (w:=_) (cs:=#[.int .i64 ka,.string xa,.slice a1o a1m a1c,.slice a2o a2m a2c,.slice a3o a3m a3c]) (t:=42) (by first|rfl|(simp only [World.size_alloc];done)|(simp only [World.size_alloc];omega)|simp))⟩ ?_
     rintro w10 ⟨e10,bB0_10,bM1_10,bB1_10,bB94_10,bB95_10,bOL_10,bB3_10⟩
     have HX10:=Hi55 e10;have HB0_10:=Hi55 bB0_10;have HM1_10:=Hi55 bM1_10;have HB1_10:=Hi55 bB1_10;have HB94_10:=Hi55 bB94_10;have HB95_10:=Hi55 bB95_10;have HOL_10:=Hi55 bOL_10;have HB3_10:=Hi55 bB3_10
     have HGEB3:Hid (w.heap.size<=w9.heap.size):=Hi55 (HX9.out.size)
     clear e10 bB0_10 bM1_10 bB1_10 bB94_10 bB95_10 bOL_10 bB3_10
     have c94_0:=HB94_10.out.cell 0 rfl
     have c94_1:=HB94_10.out.cell 1 rfl
     have c94_2:=HB94_10.out.cell 2 rfl
     go_wp2_with fail
     refine (min_sm (P:=P.less r) (HG.out.ext (HX10.out)) (less_pm (HPM.out.ext HM1_10.out.out) (by have:=HPE.out;omega)) (HSM.out.rows (by have:=HPE.out;omega))).mono ?_;rintro e w11 ⟨v_,rfl,e11,sv_⟩
     have HX11:=Hi55 (HX10.out.trans e11)
     have HB0_11:=Hi55 (HB0_10.out.ext e11)
     have HM1_11:=Hi55 (HM1_10.out.ext e11)
     have HB1_11:=Hi55 (HB1_10.out.ext e11)
     have HB94_11:=Hi55 (HB94_10.out.ext e11)
     have HB95_11:=Hi55 (HB95_10.out.ext e11)
     have HOL_11:=Hi55 (HOL_10.out.ext e11)
     have HB3_11:=Hi55 (HB3_10.out.ext e11)
     clear e11 c94_0 c94_1 c94_2
     obtain ⟨kb,xb,b1o,b1m,b1c,b2o,b2m,b2c,b3o,b3m,b3c,rfl⟩:=sv_.sh
     have HSb:=Hi55 sv_;clear sv_
     go_upto_region 13 with fail
     have HGFM1B4:Hid (w3.heap.size<=w11.heap.size):=Hi55 (Nat.le_trans HM1_11.out.out.size (by first|omega|(simp only [];omega)|(simp;omega)))
     refine wp_name (fun W=>Ext w W/\Blk W (w.heap.size) (#[.int .u8 vv,.slice wo (r+1) wcap,.int .i8 o0,.int .i8 o1,.int .i8 o2]) 26/\Fr w3 W/\Blk W (w3.heap.size) (#[.int .i64 (P.n:Int),.slice ro (r+1) rcap,.slice co P.n ccap]) 32/\Blk W (b4) (#[.int .i64 (P.n:Int),.slice ro r rcap,.slice co P.n ccap]) 32/\Blk W (b5) (#[.int .i64 (P.n:Int),.slice ro (r+1) rcap,.slice la P.n lc]) 32/\Osl w3 W 34 1 (.slice la P.n lc) P.n ((fun j => .string (qs (3*P.C j))))/\Blk W (w9.heap.size) (#[.int .i64 ka,.string xa,.slice a1o a1m a1c,.slice a2o a2m a2c,.slice a3o a3m a3c]) 42/\Blk W (w11.heap.size) (#[.int .i64 kb,.string xb,.slice b1o b1m b1c,.slice b2o b2m b2c,.slice b3o b3m b3c]) 42) ⟨(HX11.out.alloc _),(HB0_11.out.alloc _),(HM1_11.out.alloc _),(HB1_11.out.alloc _),(HB94_11.out.alloc _),(HB95_11.out.alloc _),(HOL_11.out.alloc _),(HB3_11.out.alloc _),(Blk.new' (w:=_) (cs:=#[.int .i64 kb,.string xb,.slice b1o b1m b1c,.slice b2o b2m b2c,.slice b3o b3m b3c]) (t:=42) (by first|rfl|(simp only [World.size_alloc];done)|(simp only [World.size_alloc];omega)|simp))⟩ ?_
     rintro w12 ⟨e12,bB0_12,bM1_12,bB1_12,bB94_12,bB95_12,bOL_12,bB3_12,bB4_12⟩
     have HX12:=Hi55 e12;have HB0_12:=Hi55 bB0_12;have HM1_12:=Hi55 bM1_12;have HB1_12:=Hi55 bB1_12;have HB94_12:=Hi55 bB94_12;have HB95_12:=Hi55 bB95_12;have HOL_12:=Hi55 bOL_12;have HB3_12:=Hi55 bB3_12;have HB4_12:=Hi55 bB4_12
     have HGEB4:Hid (w.heap.size<=w11.heap.size):=Hi55 (HX11.out.size)
     clear e12 bB0_12 bM1_12 bB1_12 bB94_12 bB95_12 bOL_12 bB3_12 bB4_12
     have c95_0:=HB95_12.out.cell 0 rfl
     have c95_1:=HB95_12.out.cell 1 rfl
     have c95_2:=HB95_12.out.cell 2 rfl
     go_wp2_with fail
     refine (min_sm (P:=P.three) (HG.out.ext (HX12.out)) (pm_obj (HPM.out.ext HM1_12.out.out) HOL_12.out.rd) HS3.out).mono ?_;rintro e w13 ⟨v_,rfl,e13,sv_⟩
     have HX13:=Hi55 (HX12.out.trans e13)
     have HB0_13:=Hi55 (HB0_12.out.ext e13)
     have HM1_13:=Hi55 (HM1_12.out.ext e13)
     have HB1_13:=Hi55 (HB1_12.out.ext e13)
     have HB94_13:=Hi55 (HB94_12.out.ext e13)
     have HB95_13:=Hi55 (HB95_12.out.ext e13)
     have HOL_13:=Hi55 (HOL_12.out.ext e13)
     have HB3_13:=Hi55 (HB3_12.out.ext e13)
     have HB4_13:=Hi55 (HB4_12.out.ext e13)
     clear e13 c95_0 c95_1 c95_2
     obtain ⟨kc,xc,c1o,c1m,c1c,c2o,c2m,c2c,c3o,c3m,c3c,rfl⟩:=sv_.sh
     have HSc:=Hi55 sv_;clear sv_
     go_upto_region 14 with fail
     have HGFM1B5:Hid (w3.heap.size<=w13.heap.size):=Hi55 (Nat.le_trans HM1_13.out.out.size (by first|omega|(simp only [];omega)|(simp;omega)))
     refine wp_name (fun W=>Ext w W/\Blk W (w.heap.size) (#[.int .u8 vv,.slice wo (r+1) wcap,.int .i8 o0,.int .i8 o1,.int .i8 o2]) 26/\Fr w3 W/\Blk W (w3.heap.size) (#[.int .i64 (P.n:Int),.slice ro (r+1) rcap,.slice co P.n ccap]) 32/\Blk W (b4) (#[.int .i64 (P.n:Int),.slice ro r rcap,.slice co P.n ccap]) 32/\Blk W (b5) (#[.int .i64 (P.n:Int),.slice ro (r+1) rcap,.slice la P.n lc]) 32/\Osl w3 W 34 1 (.slice la P.n lc) P.n ((fun j => .string (qs (3*P.C j))))/\Blk W (w9.heap.size) (#[.int .i64 ka,.string xa,.slice a1o a1m a1c,.slice a2o a2m a2c,.slice a3o a3m a3c]) 42/\Blk W (w11.heap.size) (#[.int .i64 kb,.string xb,.slice b1o b1m b1c,.slice b2o b2m b2c,.slice b3o b3m b3c]) 42/\Blk W (w13.heap.size) (#[.int .i64 kc,.string xc,.slice c1o c1m c1c,.slice c2o c2m c2c,.slice c3o c3m c3c]) 42) ⟨(HX13.out.alloc _),(HB0_13.out.alloc _),(HM1_13.out.alloc _),(HB1_13.out.alloc _),(HB94_13.out.alloc _),(HB95_13.out.alloc _),(HOL_13.out.alloc _),(HB3_13.out.alloc _),(HB4_13.out.alloc _),(Blk.new' (w:=_) (cs:=#[.int .i64 kc,.string xc,.slice c1o c1m c1c,.slice c2o c2m c2c,.slice c3o c3m c3c]) (t:=42) (by first|rfl|(simp only [World.size_alloc];done)|(simp only [World.size_alloc];omega)|simp))⟩ ?_
     rintro w14 ⟨e14,bB0_14,bM1_14,bB1_14,bB94_14,bB95_14,bOL_14,bB3_14,bB4_14,bB5_14⟩
     have HX14:=Hi55 e14;have HB0_14:=Hi55 bB0_14;have HM1_14:=Hi55 bM1_14;have HB1_14:=Hi55 bB1_14;have HB94_14:=Hi55 bB94_14;have HB95_14:=Hi55 bB95_14;have HOL_14:=Hi55 bOL_14;have HB3_14:=Hi55 bB3_14;have HB4_14:=Hi55 bB4_14;have HB5_14:=Hi55 bB5_14
     have HGEB5:Hid (w.heap.size<=w13.heap.size):=Hi55 (HX13.out.size)
     clear e14 bB0_14 bM1_14 bB1_14 bB94_14 bB95_14 bOL_14 bB3_14 bB4_14 bB5_14
     have gw:=grows (by have:=HPE.out;omega:r<=P.m) HSa.out HSb.out HSc.out
     clear HSa HSb HSc
     rcases gw with ⟨v,u,le_,qv_,qu_,s1,s2,s3⟩|⟨v,qv_,s1,s2,s3⟩|⟨s1,⟨kd,xb2,rfl|rfl|rfl,s2⟩,s3⟩|⟨s1,s2,s3⟩
     ·obtain ⟨rfl,rfl⟩:=s1.eqs;obtain ⟨rfl,rfl⟩:=s2.eqs;obtain ⟨rfl,rfl⟩:=s3.eqs;have HQV:=Hi55 qv_;have HQU:=Hi55 qu_;have HLE:=Hi55 le_;clear s1 s2 s3 qv_ qu_ le_
      have c3_0:=HB3_14.out.cell 0 rfl
      have c5_0:=HB5_14.out.cell 0 rfl
      go_wp2_with fail
      clear c3_0 c5_0
      refine region_e [.val (.pointer (some ⟨w9.heap.size,0,none⟩)),.val (.int .i64 1),.val (.bool true),.val (.bool true),.val (.pointer (some ⟨w13.heap.size,1,none⟩)),.val (.string (qs ((3:Rat)*v))),.val (.pointer (some ⟨w9.heap.size,1,none⟩)),.val (.string (qs v)),.val (.string (qs ((3:Rat)*v))),.val (.bool false),.val (.bool false)] (fun L g W=>True) (S:=fun _=>False) (by kernel_rfl) (by kernel_rfl) (by kernel_rfl) (Mv.refl (Ext.refl _) (fun k h=>h.elim)) ?_ ?_ ?_ ?_ (fun gv_ w15 hm_ he_=>?_)
      ·exact fun _=>trivial
      ·exact fun _ _ _ _ h _=>h
      ·exact fun _ _ _ _ _ _ h=>h
      ·skip
       refine RV (fun A_ hs_ K_ hK_=>?_) ?_;· have q7_:=(hs_.old 7:A_.tmps[7]?.getD undef = .pointer (some ⟨w9.heap.size,0,none⟩));go_simp;exact fin_ hK_
       refine RV (fun A_ hs_ K_ hK_=>?_) ?_;· have q90_:=hs_.val 0;have c3_0:=(hs_.mv.blk HB3_14.out (fun h=>h)).cell 0 rfl;go_simp;exact fin_ hK_
       refine RV (fun A_ hs_ K_ hK_=>?_) ?_;· have q91_:=hs_.val 1;go_simp;exact fin_ hK_
       refine RV (fun A_ hs_ K_ hK_=>?_) ?_;· have q92_:=hs_.val 2;go_simp;exact fin_ hK_
       refine RV (fun A_ hs_ K_ hK_=>?_) ?_;· have q11_:=(hs_.old 11:A_.tmps[11]?.getD undef = .pointer (some ⟨w13.heap.size,0,none⟩));go_simp;exact fin_ hK_
       refine RV (fun A_ hs_ K_ hK_=>?_) ?_;· have q94_:=hs_.val 4;have c5_1:=(hs_.mv.blk HB5_14.out (fun h=>h)).cell 1 rfl;go_simp;exact fin_ hK_
       refine RV (fun A_ hs_ K_ hK_=>?_) ?_;· have q7_:=(hs_.old 7:A_.tmps[7]?.getD undef = .pointer (some ⟨w9.heap.size,0,none⟩));go_simp;exact fin_ hK_
       refine RV (fun A_ hs_ K_ hK_=>?_) ?_;· have q96_:=hs_.val 6;have c3_1:=(hs_.mv.blk HB3_14.out (fun h=>h)).cell 1 rfl;go_simp;exact fin_ hK_
       refine RV (fun A_ hs_ K_ hK_=>?_) ?_;· have q97_:=hs_.val 7;go_simp;refine (p3_three v _ (HG.out.ext (HX14.out.trans hs_.mv.ext)) (HQV.out.mono (by omega))).mono ?_;rintro e W9_ ⟨rfl,e9_⟩;exact hK_.out _ e9_
       refine RV (fun A_ hs_ K_ hK_=>?_) ?_;· have q95_:=hs_.val 5;have q98_:=hs_.val 8;go_simp;exact fin_ hK_
       refine RV (fun A_ hs_ K_ hK_=>?_) ?_;· have q93_:=hs_.val 3;have q99_:=hs_.val 9;go_simp;exact fin_ hK_
       exact RnEL.nil
      simp only [fse,Ke.value,puts,Act.put,List.setIfInBounds_toArray,List.set_cons_zero,List.set_cons_succ]
      have HX15:=Hi55 (HX14.out.trans hm_.ext)
      have HB0_15:=Hi55 (hm_.blk HB0_14.out (fun h=>h))
      have HM1_15:=Hi55 (HM1_14.out.ext hm_.ext)
      have HB1_15:=Hi55 (hm_.blk HB1_14.out (fun h=>h))
      have HB94_15:=Hi55 (hm_.blk HB94_14.out (fun h=>h))
      have HB95_15:=Hi55 (hm_.blk HB95_14.out (fun h=>h))
      have HOL_15:=Hi55 (HOL_14.out.mv hm_ (fun i hi h=>h))
      have HB3_15:=Hi55 (hm_.blk HB3_14.out (fun h=>h))
      have HB4_15:=Hi55 (hm_.blk HB4_14.out (fun h=>h))
      clear hm_ he_
      have c4_0:=HB4_15.out.cell 0 rfl
      have c3_0:=HB3_15.out.cell 0 rfl
      go_upto_region 22 with fail
      clear c4_0 c3_0
      rcases sgn3 (v+-u) with ⟨h1,h2⟩|⟨h1,h2⟩|⟨h1,h2⟩
      ·exact absurd h2 (by have:=HLE.out;grind)
      ·have HSG:=Hi55 h1;clear h1 h2
       go_wp2_with fail
       refine region_e [.val (.pointer (some ⟨w9.heap.size,1,none⟩)),.val (.string (qs v)),.val (.pointer (some ⟨w11.heap.size,1,none⟩)),.val (.string (qs u)),.val (.string (qs (-u))),.val (.string (qs (v+-u))),.val (.int .i64 0),.val (.bool true),.val (.bool true)] (fun L g W=>True) (S:=fun _=>False) (by kernel_rfl) (by kernel_rfl) (by kernel_rfl) (Mv.refl (Ext.refl _) (fun k h=>h.elim)) ?_ ?_ ?_ ?_ (fun gv_ w16 hm_ he_=>?_)
       ·exact fun _=>trivial
       ·exact fun _ _ _ _ h _=>h
       ·exact fun _ _ _ _ _ _ h=>h
       ·skip
        refine RV (fun A_ hs_ K_ hK_=>?_) ?_;· have q7_:=(hs_.old 7:A_.tmps[7]?.getD undef = .pointer (some ⟨w9.heap.size,0,none⟩));go_simp;exact fin_ hK_
        refine RV (fun A_ hs_ K_ hK_=>?_) ?_;· have q123_:=hs_.val 0;have c3_1:=(hs_.mv.blk HB3_15.out (fun h=>h)).cell 1 rfl;go_simp;exact fin_ hK_
        refine RV (fun A_ hs_ K_ hK_=>?_) ?_;· have q9_:=(hs_.old 9:A_.tmps[9]?.getD undef = .pointer (some ⟨w11.heap.size,0,none⟩));go_simp;exact fin_ hK_
        refine RV (fun A_ hs_ K_ hK_=>?_) ?_;· have q125_:=hs_.val 2;have c4_1:=(hs_.mv.blk HB4_15.out (fun h=>h)).cell 1 rfl;go_simp;exact fin_ hK_
        refine RV (fun A_ hs_ K_ hK_=>?_) ?_;· have q126_:=hs_.val 3;go_simp;refine (p3_neg u _ (HG.out.ext (HX15.out.trans hs_.mv.ext)) (HQU.out.mono (by omega))).mono ?_;rintro e W9_ ⟨rfl,e9_⟩;exact hK_.out _ e9_
        refine RV (fun A_ hs_ K_ hK_=>?_) ?_;· have q124_:=hs_.val 1;have q127_:=hs_.val 4;go_simp;refine (p3_plus v (-u) _ (HG.out.ext (HX15.out.trans hs_.mv.ext)) (HQV.out.mono (by omega)) (HQU.out.neg.mono (by omega))).mono ?_;rintro e W9_ ⟨rfl,e9_⟩;exact hK_.out _ e9_
        refine RV (fun A_ hs_ K_ hK_=>?_) ?_;· have q128_:=hs_.val 5;go_simp;refine ((HSG.out▸sg7_c (v+-u) _ (HG.out.ext (HX15.out.trans hs_.mv.ext)) ((HQV.out.add HQU.out.neg).mono (by omega)))).mono ?_;rintro e W9_ ⟨rfl,e9_⟩;exact hK_.out _ e9_
        refine RV (fun A_ hs_ K_ hK_=>?_) ?_;· have q129_:=hs_.val 6;go_simp;exact fin_ hK_
        refine RV (fun A_ hs_ K_ hK_=>?_) ?_;· have q130_:=hs_.val 7;go_simp;exact fin_ hK_
        exact RnEL.nil
       simp only [fse,Ke.value,puts,Act.put,List.setIfInBounds_toArray,List.set_cons_zero,List.set_cons_succ]
       have HX16:=Hi55 (HX15.out.trans hm_.ext)
       have HB0_16:=Hi55 (hm_.blk HB0_15.out (fun h=>h))
       have HM1_16:=Hi55 (HM1_15.out.ext hm_.ext)
       have HB1_16:=Hi55 (hm_.blk HB1_15.out (fun h=>h))
       have HB94_16:=Hi55 (hm_.blk HB94_15.out (fun h=>h))
       have HB95_16:=Hi55 (hm_.blk HB95_15.out (fun h=>h))
       have HOL_16:=Hi55 (HOL_15.out.mv hm_ (fun i hi h=>h))
       clear hm_ he_
       go_wp2
       go_ret
       exact ⟨rfl,HX16.out⟩
      ·have HSG:=Hi55 h1;clear h1 h2
       go_wp2_with fail
       refine region_e [.val (.pointer (some ⟨w9.heap.size,1,none⟩)),.val (.string (qs v)),.val (.pointer (some ⟨w11.heap.size,1,none⟩)),.val (.string (qs u)),.val (.string (qs (-u))),.val (.string (qs (v+-u))),.val (.int .i64 1),.val (.bool true),.val (.bool true)] (fun L g W=>True) (S:=fun _=>False) (by kernel_rfl) (by kernel_rfl) (by kernel_rfl) (Mv.refl (Ext.refl _) (fun k h=>h.elim)) ?_ ?_ ?_ ?_ (fun gv_ w16 hm_ he_=>?_)
       ·exact fun _=>trivial
       ·exact fun _ _ _ _ h _=>h
       ·exact fun _ _ _ _ _ _ h=>h
       ·skip
        refine RV (fun A_ hs_ K_ hK_=>?_) ?_;· have q7_:=(hs_.old 7:A_.tmps[7]?.getD undef = .pointer (some ⟨w9.heap.size,0,none⟩));go_simp;exact fin_ hK_
        refine RV (fun A_ hs_ K_ hK_=>?_) ?_;· have q123_:=hs_.val 0;have c3_1:=(hs_.mv.blk HB3_15.out (fun h=>h)).cell 1 rfl;go_simp;exact fin_ hK_
        refine RV (fun A_ hs_ K_ hK_=>?_) ?_;· have q9_:=(hs_.old 9:A_.tmps[9]?.getD undef = .pointer (some ⟨w11.heap.size,0,none⟩));go_simp;exact fin_ hK_
        refine RV (fun A_ hs_ K_ hK_=>?_) ?_;· have q125_:=hs_.val 2;have c4_1:=(hs_.mv.blk HB4_15.out (fun h=>h)).cell 1 rfl;go_simp;exact fin_ hK_
        refine RV (fun A_ hs_ K_ hK_=>?_) ?_;· have q126_:=hs_.val 3;go_simp;refine (p3_neg u _ (HG.out.ext (HX15.out.trans hs_.mv.ext)) (HQU.out.mono (by omega))).mono ?_;rintro e W9_ ⟨rfl,e9_⟩;exact hK_.out _ e9_
        refine RV (fun A_ hs_ K_ hK_=>?_) ?_;· have q124_:=hs_.val 1;have q127_:=hs_.val 4;go_simp;refine (p3_plus v (-u) _ (HG.out.ext (HX15.out.trans hs_.mv.ext)) (HQV.out.mono (by omega)) (HQU.out.neg.mono (by omega))).mono ?_;rintro e W9_ ⟨rfl,e9_⟩;exact hK_.out _ e9_
        refine RV (fun A_ hs_ K_ hK_=>?_) ?_;· have q128_:=hs_.val 5;go_simp;refine ((HSG.out▸sg7_c (v+-u) _ (HG.out.ext (HX15.out.trans hs_.mv.ext)) ((HQV.out.add HQU.out.neg).mono (by omega)))).mono ?_;rintro e W9_ ⟨rfl,e9_⟩;exact hK_.out _ e9_
        refine RV (fun A_ hs_ K_ hK_=>?_) ?_;· have q129_:=hs_.val 6;go_simp;exact fin_ hK_
        refine RV (fun A_ hs_ K_ hK_=>?_) ?_;· have q130_:=hs_.val 7;go_simp;exact fin_ hK_
        exact RnEL.nil
       simp only [fse,Ke.value,puts,Act.put,List.setIfInBounds_toArray,List.set_cons_zero,List.set_cons_succ]
       have HX16:=Hi55 (HX15.out.trans hm_.ext)
       have HB0_16:=Hi55 (hm_.blk HB0_15.out (fun h=>h))
       have HM1_16:=Hi55 (HM1_15.out.ext hm_.ext)
       have HB1_16:=Hi55 (hm_.blk HB1_15.out (fun h=>h))
       have HB94_16:=Hi55 (hm_.blk HB94_15.out (fun h=>h))
       have HB95_16:=Hi55 (hm_.blk HB95_15.out (fun h=>h))
       have HOL_16:=Hi55 (HOL_15.out.mv hm_ (fun i hi h=>h))
       clear hm_ he_
       go_wp2
       go_ret
       exact ⟨rfl,HX16.out⟩
     ·obtain ⟨rfl,rfl⟩:=s1.eqs;obtain ⟨rfl,rfl⟩:=s2.eqs;obtain ⟨rfl,rfl⟩:=s3.eqs;have HQV:=Hi55 qv_;clear s1 s2 s3 qv_
      have c3_0:=HB3_14.out.cell 0 rfl
      have c5_0:=HB5_14.out.cell 0 rfl
      go_wp2_with fail
      clear c3_0 c5_0
      refine region_e [.val (.pointer (some ⟨w9.heap.size,0,none⟩)),.val (.int .i64 1),.val (.bool true),.val (.bool true),.val (.pointer (some ⟨w13.heap.size,1,none⟩)),.val (.string (qs ((3:Rat)*v))),.val (.pointer (some ⟨w9.heap.size,1,none⟩)),.val (.string (qs v)),.val (.string (qs ((3:Rat)*v))),.val (.bool false),.val (.bool false)] (fun L g W=>True) (S:=fun _=>False) (by kernel_rfl) (by kernel_rfl) (by kernel_rfl) (Mv.refl (Ext.refl _) (fun k h=>h.elim)) ?_ ?_ ?_ ?_ (fun gv_ w15 hm_ he_=>?_)
      ·exact fun _=>trivial
      ·exact fun _ _ _ _ h _=>h
      ·exact fun _ _ _ _ _ _ h=>h
      ·skip
       refine RV (fun A_ hs_ K_ hK_=>?_) ?_;· have q7_:=(hs_.old 7:A_.tmps[7]?.getD undef = .pointer (some ⟨w9.heap.size,0,none⟩));go_simp;exact fin_ hK_
       refine RV (fun A_ hs_ K_ hK_=>?_) ?_;· have q90_:=hs_.val 0;have c3_0:=(hs_.mv.blk HB3_14.out (fun h=>h)).cell 0 rfl;go_simp;exact fin_ hK_
       refine RV (fun A_ hs_ K_ hK_=>?_) ?_;· have q91_:=hs_.val 1;go_simp;exact fin_ hK_
       refine RV (fun A_ hs_ K_ hK_=>?_) ?_;· have q92_:=hs_.val 2;go_simp;exact fin_ hK_
       refine RV (fun A_ hs_ K_ hK_=>?_) ?_;· have q11_:=(hs_.old 11:A_.tmps[11]?.getD undef = .pointer (some ⟨w13.heap.size,0,none⟩));go_simp;exact fin_ hK_
       refine RV (fun A_ hs_ K_ hK_=>?_) ?_;· have q94_:=hs_.val 4;have c5_1:=(hs_.mv.blk HB5_14.out (fun h=>h)).cell 1 rfl;go_simp;exact fin_ hK_
       refine RV (fun A_ hs_ K_ hK_=>?_) ?_;· have q7_:=(hs_.old 7:A_.tmps[7]?.getD undef = .pointer (some ⟨w9.heap.size,0,none⟩));go_simp;exact fin_ hK_
       refine RV (fun A_ hs_ K_ hK_=>?_) ?_;· have q96_:=hs_.val 6;have c3_1:=(hs_.mv.blk HB3_14.out (fun h=>h)).cell 1 rfl;go_simp;exact fin_ hK_
       refine RV (fun A_ hs_ K_ hK_=>?_) ?_;· have q97_:=hs_.val 7;go_simp;refine (p3_three v _ (HG.out.ext (HX14.out.trans hs_.mv.ext)) (HQV.out.mono (by omega))).mono ?_;rintro e W9_ ⟨rfl,e9_⟩;exact hK_.out _ e9_
       refine RV (fun A_ hs_ K_ hK_=>?_) ?_;· have q95_:=hs_.val 5;have q98_:=hs_.val 8;go_simp;exact fin_ hK_
       refine RV (fun A_ hs_ K_ hK_=>?_) ?_;· have q93_:=hs_.val 3;have q99_:=hs_.val 9;go_simp;exact fin_ hK_
       exact RnEL.nil
      simp only [fse,Ke.value,puts,Act.put,List.setIfInBounds_toArray,List.set_cons_zero,List.set_cons_succ]
      have HX15:=Hi55 (HX14.out.trans hm_.ext)
      have HB0_15:=Hi55 (hm_.blk HB0_14.out (fun h=>h))
      have HM1_15:=Hi55 (HM1_14.out.ext hm_.ext)
      have HB1_15:=Hi55 (hm_.blk HB1_14.out (fun h=>h))
      have HB94_15:=Hi55 (hm_.blk HB94_14.out (fun h=>h))
      have HB95_15:=Hi55 (hm_.blk HB95_14.out (fun h=>h))
      have HOL_15:=Hi55 (HOL_14.out.mv hm_ (fun i hi h=>h))
      have HB3_15:=Hi55 (hm_.blk HB3_14.out (fun h=>h))
      have HB4_15:=Hi55 (hm_.blk HB4_14.out (fun h=>h))
      clear hm_ he_
      have c4_0:=HB4_15.out.cell 0 rfl
      have c3_0:=HB3_15.out.cell 0 rfl
      go_wp2
      go_ret
      exact ⟨rfl,HX15.out⟩
     ·obtain ⟨rfl,rfl⟩:=s1.eqs;obtain ⟨rfl,rfl⟩:=s2.eqs;obtain ⟨rfl,rfl⟩:=s3.eqs;clear s1 s2 s3
      have c3_0:=HB3_14.out.cell 0 rfl
      have c5_0:=HB5_14.out.cell 0 rfl
      go_wp2_with fail
      clear c3_0 c5_0
      refine region_e [.val (.pointer (some ⟨w9.heap.size,0,none⟩)),.val (.int .i64 2),.val (.bool false),.val (.bool false),.off,.off,.off,.off,.off,.off,.val (.bool false)] (fun L g W=>True) (S:=fun _=>False) (by kernel_rfl) (by kernel_rfl) (by kernel_rfl) (Mv.refl (Ext.refl _) (fun k h=>h.elim)) ?_ ?_ ?_ ?_ (fun gv_ w15 hm_ he_=>?_)
      ·exact fun _=>trivial
      ·exact fun _ _ _ _ h _=>h
      ·exact fun _ _ _ _ _ _ h=>h
      ·skip
       refine RV (fun A_ hs_ K_ hK_=>?_) ?_;· have q7_:=(hs_.old 7:A_.tmps[7]?.getD undef = .pointer (some ⟨w9.heap.size,0,none⟩));go_simp;exact fin_ hK_
       refine RV (fun A_ hs_ K_ hK_=>?_) ?_;· have q90_:=hs_.val 0;have c3_0:=(hs_.mv.blk HB3_14.out (fun h=>h)).cell 0 rfl;go_simp;exact fin_ hK_
       refine RV (fun A_ hs_ K_ hK_=>?_) ?_;· have q91_:=hs_.val 1;go_simp;exact fin_ hK_
       refine RV (fun A_ hs_ K_ hK_=>?_) ?_;· have q92_:=hs_.val 2;go_simp;exact fin_ hK_
       refine RO (RO (RO (RO (RO (RO (RV (fun A_ hs_ K_ hK_=>?_) ?_))))));· have q93_:=hs_.val 3;have q99_:=hs_.un 9;go_simp;exact fin_ hK_
       exact RnEL.nil
      simp only [fse,Ke.value,puts,Act.put,List.setIfInBounds_toArray,List.set_cons_zero,List.set_cons_succ]
      have HX15:=Hi55 (HX14.out.trans hm_.ext)
      have HB0_15:=Hi55 (hm_.blk HB0_14.out (fun h=>h))
      have HM1_15:=Hi55 (HM1_14.out.ext hm_.ext)
      have HB1_15:=Hi55 (hm_.blk HB1_14.out (fun h=>h))
      have HB94_15:=Hi55 (hm_.blk HB94_14.out (fun h=>h))
      have HB95_15:=Hi55 (hm_.blk HB95_14.out (fun h=>h))
      have HOL_15:=Hi55 (HOL_14.out.mv hm_ (fun i hi h=>h))
      have HB3_15:=Hi55 (hm_.blk HB3_14.out (fun h=>h))
      have HB4_15:=Hi55 (hm_.blk HB4_14.out (fun h=>h))
      clear hm_ he_
      have c4_0:=HB4_15.out.cell 0 rfl
      have c3_0:=HB3_15.out.cell 0 rfl
      go_wp2
      go_ret
      exact ⟨rfl,HX15.out⟩
     ·obtain ⟨rfl,rfl⟩:=s1.eqs;obtain ⟨rfl,rfl⟩:=s2.eqs;obtain ⟨rfl,rfl⟩:=s3.eqs;clear s1 s2 s3
      have c3_0:=HB3_14.out.cell 0 rfl
      have c5_0:=HB5_14.out.cell 0 rfl
      go_wp2_with fail
      clear c3_0 c5_0
      refine region_e [.val (.pointer (some ⟨w9.heap.size,0,none⟩)),.val (.int .i64 2),.val (.bool false),.val (.bool false),.off,.off,.off,.off,.off,.off,.val (.bool false)] (fun L g W=>True) (S:=fun _=>False) (by kernel_rfl) (by kernel_rfl) (by kernel_rfl) (Mv.refl (Ext.refl _) (fun k h=>h.elim)) ?_ ?_ ?_ ?_ (fun gv_ w15 hm_ he_=>?_)
      ·exact fun _=>trivial
      ·exact fun _ _ _ _ h _=>h
      ·exact fun _ _ _ _ _ _ h=>h
      ·skip
       refine RV (fun A_ hs_ K_ hK_=>?_) ?_;· have q7_:=(hs_.old 7:A_.tmps[7]?.getD undef = .pointer (some ⟨w9.heap.size,0,none⟩));go_simp;exact fin_ hK_
       refine RV (fun A_ hs_ K_ hK_=>?_) ?_;· have q90_:=hs_.val 0;have c3_0:=(hs_.mv.blk HB3_14.out (fun h=>h)).cell 0 rfl;go_simp;exact fin_ hK_
       refine RV (fun A_ hs_ K_ hK_=>?_) ?_;· have q91_:=hs_.val 1;go_simp;exact fin_ hK_
       refine RV (fun A_ hs_ K_ hK_=>?_) ?_;· have q92_:=hs_.val 2;go_simp;exact fin_ hK_
       refine RO (RO (RO (RO (RO (RO (RV (fun A_ hs_ K_ hK_=>?_) ?_))))));· have q93_:=hs_.val 3;have q99_:=hs_.un 9;go_simp;exact fin_ hK_
       exact RnEL.nil
      simp only [fse,Ke.value,puts,Act.put,List.setIfInBounds_toArray,List.set_cons_zero,List.set_cons_succ]
      have HX15:=Hi55 (HX14.out.trans hm_.ext)
      have HB0_15:=Hi55 (hm_.blk HB0_14.out (fun h=>h))
      have HM1_15:=Hi55 (HM1_14.out.ext hm_.ext)
      have HB1_15:=Hi55 (hm_.blk HB1_14.out (fun h=>h))
      have HB94_15:=Hi55 (hm_.blk HB94_14.out (fun h=>h))
      have HB95_15:=Hi55 (hm_.blk HB95_14.out (fun h=>h))
      have HOL_15:=Hi55 (HOL_14.out.mv hm_ (fun i hi h=>h))
      have HB3_15:=Hi55 (hm_.blk HB3_14.out (fun h=>h))
      have HB4_15:=Hi55 (hm_.blk HB4_14.out (fun h=>h))
      clear hm_ he_
      have c4_0:=HB4_15.out.cell 0 rfl
      have c3_0:=HB3_15.out.cell 0 rfl
      go_wp2
      go_ret
      exact ⟨rfl,HX15.out⟩
     ·obtain ⟨rfl,rfl⟩:=s1.eqs;obtain ⟨rfl,rfl⟩:=s2.eqs;obtain ⟨rfl,rfl⟩:=s3.eqs;clear s1 s2 s3
      have c3_0:=HB3_14.out.cell 0 rfl
      have c5_0:=HB5_14.out.cell 0 rfl
      go_wp2_with fail
      clear c3_0 c5_0
      refine region_e [.val (.pointer (some ⟨w9.heap.size,0,none⟩)),.val (.int .i64 2),.val (.bool false),.val (.bool false),.off,.off,.off,.off,.off,.off,.val (.bool false)] (fun L g W=>True) (S:=fun _=>False) (by kernel_rfl) (by kernel_rfl) (by kernel_rfl) (Mv.refl (Ext.refl _) (fun k h=>h.elim)) ?_ ?_ ?_ ?_ (fun gv_ w15 hm_ he_=>?_)
      ·exact fun _=>trivial
      ·exact fun _ _ _ _ h _=>h
      ·exact fun _ _ _ _ _ _ h=>h
      ·skip
       refine RV (fun A_ hs_ K_ hK_=>?_) ?_;· have q7_:=(hs_.old 7:A_.tmps[7]?.getD undef = .pointer (some ⟨w9.heap.size,0,none⟩));go_simp;exact fin_ hK_
       refine RV (fun A_ hs_ K_ hK_=>?_) ?_;· have q90_:=hs_.val 0;have c3_0:=(hs_.mv.blk HB3_14.out (fun h=>h)).cell 0 rfl;go_simp;exact fin_ hK_
       refine RV (fun A_ hs_ K_ hK_=>?_) ?_;· have q91_:=hs_.val 1;go_simp;exact fin_ hK_
       refine RV (fun A_ hs_ K_ hK_=>?_) ?_;· have q92_:=hs_.val 2;go_simp;exact fin_ hK_
       refine RO (RO (RO (RO (RO (RO (RV (fun A_ hs_ K_ hK_=>?_) ?_))))));· have q93_:=hs_.val 3;have q99_:=hs_.un 9;go_simp;exact fin_ hK_
       exact RnEL.nil
      simp only [fse,Ke.value,puts,Act.put,List.setIfInBounds_toArray,List.set_cons_zero,List.set_cons_succ]
      have HX15:=Hi55 (HX14.out.trans hm_.ext)
      have HB0_15:=Hi55 (hm_.blk HB0_14.out (fun h=>h))
      have HM1_15:=Hi55 (HM1_14.out.ext hm_.ext)
      have HB1_15:=Hi55 (hm_.blk HB1_14.out (fun h=>h))
      have HB94_15:=Hi55 (hm_.blk HB94_14.out (fun h=>h))
      have HB95_15:=Hi55 (hm_.blk HB95_14.out (fun h=>h))
      have HOL_15:=Hi55 (HOL_14.out.mv hm_ (fun i hi h=>h))
      have HB3_15:=Hi55 (hm_.blk HB3_14.out (fun h=>h))
      have HB4_15:=Hi55 (hm_.blk HB4_14.out (fun h=>h))
      clear hm_ he_
      have c4_0:=HB4_15.out.cell 0 rfl
      have c3_0:=HB3_15.out.cell 0 rfl
      go_wp2
      go_ret
      exact ⟨rfl,HX15.out⟩
     ·obtain ⟨rfl,rfl⟩:=s1.eqs;obtain ⟨rfl,rfl⟩:=s2.eqs;obtain ⟨rfl,rfl⟩:=s3.eqs;clear s1 s2 s3
      have c3_0:=HB3_14.out.cell 0 rfl
      have c5_0:=HB5_14.out.cell 0 rfl
      go_wp2_with fail
      clear c3_0 c5_0
      refine region_e [.val (.pointer (some ⟨w9.heap.size,0,none⟩)),.val (.int .i64 3),.val (.bool false),.val (.bool false),.off,.off,.off,.off,.off,.off,.val (.bool false)] (fun L g W=>True) (S:=fun _=>False) (by kernel_rfl) (by kernel_rfl) (by kernel_rfl) (Mv.refl (Ext.refl _) (fun k h=>h.elim)) ?_ ?_ ?_ ?_ (fun gv_ w15 hm_ he_=>?_)
      ·exact fun _=>trivial
      ·exact fun _ _ _ _ h _=>h
      ·exact fun _ _ _ _ _ _ h=>h
      ·skip
       refine RV (fun A_ hs_ K_ hK_=>?_) ?_;· have q7_:=(hs_.old 7:A_.tmps[7]?.getD undef = .pointer (some ⟨w9.heap.size,0,none⟩));go_simp;exact fin_ hK_
       refine RV (fun A_ hs_ K_ hK_=>?_) ?_;· have q90_:=hs_.val 0;have c3_0:=(hs_.mv.blk HB3_14.out (fun h=>h)).cell 0 rfl;go_simp;exact fin_ hK_
       refine RV (fun A_ hs_ K_ hK_=>?_) ?_;· have q91_:=hs_.val 1;go_simp;exact fin_ hK_
       refine RV (fun A_ hs_ K_ hK_=>?_) ?_;· have q92_:=hs_.val 2;go_simp;exact fin_ hK_
       refine RO (RO (RO (RO (RO (RO (RV (fun A_ hs_ K_ hK_=>?_) ?_))))));· have q93_:=hs_.val 3;have q99_:=hs_.un 9;go_simp;exact fin_ hK_
       exact RnEL.nil
      simp only [fse,Ke.value,puts,Act.put,List.setIfInBounds_toArray,List.set_cons_zero,List.set_cons_succ]
      have HX15:=Hi55 (HX14.out.trans hm_.ext)
      have HB0_15:=Hi55 (hm_.blk HB0_14.out (fun h=>h))
      have HM1_15:=Hi55 (HM1_14.out.ext hm_.ext)
      have HB1_15:=Hi55 (hm_.blk HB1_14.out (fun h=>h))
      have HB94_15:=Hi55 (hm_.blk HB94_14.out (fun h=>h))
      have HB95_15:=Hi55 (hm_.blk HB95_14.out (fun h=>h))
      have HOL_15:=Hi55 (HOL_14.out.mv hm_ (fun i hi h=>h))
      have HB3_15:=Hi55 (hm_.blk HB3_14.out (fun h=>h))
      have HB4_15:=Hi55 (hm_.blk HB4_14.out (fun h=>h))
      clear hm_ he_
      have c4_0:=HB4_15.out.cell 0 rfl
      have c3_0:=HB3_15.out.cell 0 rfl
      go_wp2
      go_ret
      exact ⟨rfl,HX15.out⟩
 ·have HFT:Hid (decide (m<=6)=false):=Hi55 (decide_eq_false hm6)
  go_wp2_with fail
  refine (known7_c _ (HG.out.ext (((Ext.refl w).alloc _)))).mono ?_;rintro e w1 ⟨rfl,e1⟩
  have HX1:Hid (Ext w w1):=Hi55 (((Ext.refl w).alloc _).trans e1)
  have HB0_1:Hid (Blk w1 (w.heap.size) (#[.int .u8 vv,.slice wo m wcap,.int .i8 o0,.int .i8 o1,.int .i8 o2]) 26):=Hi55 (((Blk.new' (w:=_) (cs:=#[.int .u8 vv,.slice wo m wcap,.int .i8 o0,.int .i8 o1,.int .i8 o2]) (t:=26) (by first|rfl|(simp only [World.size_alloc];done)|(simp only [World.size_alloc];omega)|simp))).ext e1)
  have HGEB0:Hid (w.heap.size<=w.heap.size):=Hi55 (Nat.le_refl _)
  clear e1
  have c0_0:=HB0_1.out.cell 0 rfl
  have c0_1:=HB0_1.out.cell 1 rfl
  have c0_2:=HB0_1.out.cell 2 rfl
  have c0_3:=HB0_1.out.cell 3 rfl
  have c0_4:=HB0_1.out.cell 4 rfl
  go_wp2_with fail
  refine ((HFT.out▸fits7_c _ _ _ _ _ _ _ _)).mono ?_;rintro e w2 ⟨rfl,e2⟩
  have HX2:=Hi55 (HX1.out.trans e2)
  have HB0_2:=Hi55 (HB0_1.out.ext e2)
  clear e2 c0_0 c0_1 c0_2 c0_3 c0_4
  go_wp2_with fail
  refine (known7_c _ (HG.out.ext (HX2.out))).mono ?_;rintro e w3 ⟨rfl,e3⟩
  have HX3:=Hi55 (HX2.out.trans e3)
  have HB0_3:=Hi55 (HB0_2.out.ext e3)
  clear e3
  go_wp2
  go_ret
  exact ⟨rfl,HX3.out⟩
end Go.Proofs.YtcenemaadnlknaaGreatDoor
