/- Part 30 of the proof: S17. -/
import Derived.Test.YtcenemaadnlknaaGreatDoorQPC29
set_option maxRecDepth 100000
set_option maxHeartbeats 2000000
set_option linter.unusedSimpArgs false
set_option linter.unusedVariables false
theorem Go.Proofs.YtcenemaadnlknaaGreatDoor.Hi30 {p:Prop} (h:p):Go.RowKit.Hid p:=h
namespace Go.Proofs.YtcenemaadnlknaaGreatDoor
open Go Go.RowKit
theorem cap_le {n:Nat} (h:n<=1000):n<=maxLen:=by unfold maxLen;omega
def Nrow (X W:World) (v:Value) (n:Nat) (f:Nat->Value):Prop:=∃ (k:Nat) (C:Array Value),v = .slice (some ⟨k,0,none⟩) n n/\X.heap.size<=k/\Blk W k C 34/\∀ j,j<n->C[j]?=some (f j)
theorem Nrow.ext {X W W':World} {v:Value} {n:Nat} {f:Nat->Value} (h:Nrow X W v n f) (e:Ext W W'):Nrow X W' v n f:=let ⟨k,C,a,l,b,c⟩:=h;⟨k,C,a,l,b.ext e,c⟩
theorem Nrow.rd {X W:World} {v:Value} {n:Nat} {f:Nat->Value} (h:Nrow X W v n f) (hn:n<=maxLen):Rd W v n f:=by
 obtain ⟨k,C,rfl,l,b,c⟩:=h
 exact Rd.blk b (Nat.le_refl _) hn c
theorem Nrow.other {X W:World} {v:Value} {n:Nat} {f:Nat->Value} (h:Nrow X W v n f) {a:Addr} (u:Value) (hk:a.block<X.heap.size):Nrow X (W.setCell a u) v n f:=let ⟨k,C,x,l,b,c⟩:=h;⟨k,C,x,l,b.other u (by omega),c⟩
theorem Nrow.mono {X Y W:World} {v:Value} {n:Nat} {f:Nat->Value} (h:Nrow X W v n f) (e:Ext Y X):Nrow Y W v n f:=let ⟨k,C,x,l,b,c⟩:=h;⟨k,C,x,Nat.le_trans e.size l,b,c⟩
theorem nrow5 {X W:World} {v:Value} {n b:Nat} {f:Nat->Value} {C:Array Value} {u0 u1 u2 u3 u4:Value} (h:Nrow X W v n f) (hB:Blk W b C 42) :
    Nrow X (((((W.setCell ⟨b,0,none⟩ u0).setCell ⟨b,1,none⟩ u1).setCell ⟨b,2,none⟩ u2).setCell ⟨b,3,none⟩ u3).setCell ⟨b,4,none⟩ u4) v n f:=let ⟨k,D,x,l,y,z⟩:=h;⟨k,D,x,l,((((y.other _ (vob_ne y hB (by decide))).other _ (vob_ne y hB (by decide))).other _ (vob_ne y hB (by decide))).other _ (vob_ne y hB (by decide))).other _ (vob_ne y hB (by decide)),z⟩
theorem set5 {W:World} {b:Nat} {t:TypeId} {a0 a1 a2 a3 a4 u0 u1 u2 u3 u4:Value} (h:Blk W b #[a0,a1,a2,a3,a4] t) :
    Blk (((((W.setCell ⟨b,0,none⟩ u0).setCell ⟨b,1,none⟩ u1).setCell ⟨b,2,none⟩ u2).setCell ⟨b,3,none⟩ u3).setCell ⟨b,4,none⟩ u4) b #[u0,u1,u2,u3,u4] t:=((((h.set 0 u0).set 1 u1).set 2 u2).set 3 u3).set 4 u4
theorem fm_up {X:World} {M:TM} {p m b:Nat} (h:∀ k,M.S p m k->X.heap.size<=k) (hb:b<X.heap.size):∀ k,M.S p m k->k≠b:=fun k hk e=>by have:=h k hk;omega
section
variable {P:LP} {T:Tab} {q a r:Nat}
theorem qb_m1 {x:Rat} (h:QB q x):QB q (-1*x):=by rw [show (-1:Rat)*x=-x by grind];exact h.neg
theorem pt_qb (h:∀ i,i<P.m->QB q (T.c i)) (hq:1<=q):∀ j,j<P.n->QB q (P.pt T P.m j):=fun j _=>by
 have:∀ i,i<=P.m->QB q (P.pt T i j):=fun i=>by
  induction i with
  | zero=>intro _;exact QB0.mono hq
  | succ i ih=>intro hi;rw [LP.pt];exact qb_ite (h i (by omega)) (ih (by omega))
 exact this _ (Nat.le_refl _)
theorem ry_qb (h:∀ i,i<P.m->∀ j,j<P.n->QB q (T.f i j)) (ha:a<P.n) (hq:1<=q):∀ j,j<P.n->QB q (P.ry T (sgr (T.wf a)) a P.m j):=fun j _=>by
 have hs:∀ x,QB q x->QB q (sgr (T.wf a)*x):=fun x hx=>by
  rw [sgr];split
  ·exact qb_m1 hx
  ·rw [Rat.one_mul];exact hx
 have h1:QB q (sgr (T.wf a)):=by have:=hs 1 (QB1.mono hq);rwa [Rat.mul_one] at this
 have:∀ i,i<=P.m->QB q (P.ry T (sgr (T.wf a)) a i j):=fun i=>by
  induction i with
  | zero=>intro _;rw [LP.ry];exact qb_ite h1 (QB0.mono hq)
  | succ i ih=>intro hi;rw [LP.ry];exact qb_ite (hs _ (h i (by omega) a ha)) (ih (by omega))
 exact this _ (Nat.le_refl _)
theorem ref_qb (h:TQ P T q) (hr:r<P.m) (hq:1<=q):∀ i,i<P.m->QB q (P.ref T r i):=fun i _=>by
 rw [LP.ref];exact qb_ite (QB1.mono hq) (dl_qb hq (h.f r hr) P.n i (Nat.le_refl _)).neg
theorem sol_u (h:Good P T) (hp:Pos P T) (ha:a<P.n) (ho:T.o a<P.n) (hw:T.wf a≠0):Falls P (P.pt T P.m) (P.ry T (sgr (T.wf a)) a P.m) :=
 falls h.inv hp _ ha (by rw [sgr];split <;> grind) (fun i hi hb=>by rw [h.fz a ha ho i hi hb];grind) (fun h'=>by omega)
theorem sol_f (h:GoodM P T) (ha:a<P.n) (ho:P.n<=T.o a) (hw:T.wf a<0) (hf:∀ i,i<P.m->P.n<=T.b i->0<=T.f i a):Falls P (P.pt T P.m) (P.ry T (sgr (T.wf a)) a P.m):=by
 have hs:sgr (T.wf a)=1:=by rw [sgr,if_neg (by grind)]
 rw [hs]
 exact falls h.inv h.pos 1 ha (by grind) (fun i hi hb=>by have:=hf i hi hb;grind) (fun _=>by decide)
end
abbrev Nq (X w:World) (v:Value) (n:Nat) (x:Nat->Rat):Prop:=Nrow X w v n (fun j => .string (qs (x j)))
def SolV (P:LP) (q:Nat) (X w:World) (v:Value):Prop :=
 (∃ val x y vp vd,v = .agg #[.int .i64 1,.string (qs val),vp,vd,.slice none 0 0]/\Best P val x y/\QB q val/\(∀ j,j<P.n->QB q (x j))/\(∀ i,i<P.m->QB q (y i))/\Nq X w vp P.n x/\Nq X w vd P.m y) ∨
 (∃ y vd,v = .agg #[.int .i64 2,.string ⟨#[]⟩,.slice none 0 0,vd,.slice none 0 0]/\Refutes P y/\(∀ i,i<P.m->QB q (y i))/\Nq X w vd P.m y) ∨
 (∃ x d vp vd,v = .agg #[.int .i64 3,.string ⟨#[]⟩,vp,.slice none 0 0,vd]/\Falls P x d/\(∀ j,j<P.n->QB q (x j))/\(∀ j,j<P.n->QB q (d j))/\Nq X w vp P.n x/\Nq X w vd P.n d)
def SolP (P:LP) (q:Nat) (w:World) (e:Ending) (w':World):Prop:=∃ v,e = .returned v/\Ext w w'/\SolV P q w w' v
theorem sol_ret {P:LP} {q:Nat} {w w':World} {e:Ending} {v:Value} (h:e = .returned v/\Ext w w'/\SolV P q w w' v):SolP P q w e w':=⟨v,h⟩
theorem release_zero (P:LP) (p:Nat) (M:TM) (X w:World) (hX:Ext X w) (hT:TA X P P.first p M w) (hn0:P.n=0):Calls Tryz.prog 62 #[.pointer (some ⟨p,0,none⟩)] w (RelP X P p):=by
 have hv:M.vo P = .slice M.ox 0 M.oc:=by rw [TM.vo,hn0];rfl
 have hcl:Calls Tryz.prog 98 #[.slice M.ox 0 M.oc] w fun e w'=>∃ ao c,e = .returned (.slice ao 0 c)/\Ext w w':=by
  cases M.ox with
  | none =>
   refine (Tryz.slices_Clone_int_nil 0 M.oc w).mono ?_
   rintro e w' ⟨h1,h2⟩
   exact ⟨none,0,h1,h2▸Ext.refl _⟩
  | some a =>
   refine (Tryz.slices_Clone_int_zero a M.oc w).mono ?_
   rintro e w' ⟨v,h1,h2,h3,h4⟩
   rcases h2.2 with ⟨rfl,_⟩|⟨g,cap,cur,rfl,_⟩
   ·exact absurd rfl h3
   ·exact ⟨_,_,h1,h4⟩
 have HT:=Hi30 hT;have HX:=Hi30 hX;have HR0:Hid (P.rel P.first P.n=P.first):=Hi30 (by rw [hn0];rfl)
 have c3:=hv▸hT.c3
 clear hT hX hv hn0
 go_enter Tryz.func62,Tryz.ntmps62
 go_wp2_with fail
 refine hcl.mono ?_;rintro e w1 ⟨ao,c,rfl,e1⟩
 have HE:=Hi30 e1
 clear e1 c3 hcl
 go_wp2_with fail
 refine wp_loop_rounds 1 ?_
 rw [rounds_succ]
 go_wp2
 first|go_end0|((try simp only [Exit.inBlock,Exit.then]);refine bodyPost_ret (results_none rfl _ _ _) rfl ?_)
 exact ⟨rfl,HX.out.trans HE.out,M,HR0.out.symm▸HT.out.ext HE.out⟩
theorem release_c (P:LP) (p:Nat) (M:TM) (q:Nat) (X w:World) (g:Gd X) (hX:Ext X w) (hT:TA X P P.first p M w) (SZ:Szd P q) (hn:P.n<=1000) (hm:P.m<=1000) (hq1:1<=q) (hq2:q<=400):Calls Tryz.prog 62 #[.pointer (some ⟨p,0,none⟩)] w (RelP X P p):=by
 by_cases h:P.n=0
 ·exact release_zero P p M X w hX hT h
 ·exact release_pos P p M q X w g hX hT SZ hn hm hq1 hq2 (by omega)
theorem solve_c (P:LP) (vr0 vc:Value) (va:Nat->Value) (q:Nat) (w:World) (g:Gd w) (hP:PM P w vr0 vc va) (SZ:Szd P q) (hn:P.n<=1000) (hm:P.m<=1000) (hq1:1<=q) (hq2:q<=400) (qa:∀ i,i<P.m->∀ j,j<P.n->QB q (P.A i j)):Calls Tryz.prog 38 #[.agg #[.int .i64 (P.n:Int),vr0,vc]] w (SolP P q w):=by
 have HG:=Hi30 g
 have HPM:=Hi30 hP
 have HQA:=Hi30 qa
 clear g hP qa
 obtain ⟨ro,rcap,rfl,_,_,_⟩:=HPM.out.rows
 go_enter Tryz.func38,Tryz.ntmps38
 go_upto_region 1 with fail
 refine wp_name (fun W=>Ext w W/\Blk W (w.heap.size) (#[.int .i64 (P.n:Int),.slice ro P.m rcap,vc]) 32/\Blk W (w.heap.size+1) (#[.int .i64 0,.string ⟨#[]⟩,.slice none 0 0,.slice none 0 0,.slice none 0 0]) 42) ⟨(((Ext.refl w).alloc _).alloc _),((Blk.nw (#[.int .i64 (P.n:Int),.slice ro P.m rcap,vc]) 32).alloc _),(Blk.nw (#[.int .i64 0,.string ⟨#[]⟩,.slice none 0 0,.slice none 0 0,.slice none 0 0]) 42)⟩ ?_
 rintro w1 ⟨e1,bB0_1,bB1_1⟩
 have HX1:=Hi30 e1;have HB0_1:=Hi30 bB0_1;have HB1_1:=Hi30 bB1_1
 have HGEB0:Hid (w.heap.size<=w.heap.size):=Hi30 (Nat.le_refl _)
 have HGEB1:Hid (w.heap.size<=w.heap.size+1):=Hi30 (by omega)
 clear e1 bB0_1 bB1_1
 have c0_0:=HB0_1.out.cell 0 rfl
 have c0_1:=HB0_1.out.cell 1 rfl
 have c0_2:=HB0_1.out.cell 2 rfl
 go_wp2_with fail
 refine (popen_c P _ vc va w1 (HG.out.ext HX1.out) (HPM.out.ext HX1.out) hn hm hq2 HQA.out).mono ?_;rintro e w2 ⟨pk,M,rfl,e_,ta_⟩
 have HX2:Hid (Ext w w2):=Hi30 (HX1.out.trans e_)
 have HB0_2:=Hi30 (HB0_1.out.ext e_)
 have HB1_2:=Hi30 (HB1_1.out.ext e_)
 have HBT_2:=Hi30 ta_;have HE2:=Hi30 e_
 have HNT2:Hid (∀ q_,M.S pk P.m q_->q_≠w.heap.size+1):=Hi30 (fm_up HBT_2.out.up HB1_1.out.lt)
 clear e_ ta_ c0_0 c0_1 c0_2
 go_wp2_with fail
 refine (release_c P pk M q w1 w2 (HG.out.ext HX1.out) HE2.out HBT_2.out SZ hn hm hq1 hq2).mono ?_;rintro e w3 ⟨rfl,e_,M2,ta_⟩
 have HX3:Hid (Ext w w3):=Hi30 (HX1.out.trans e_)
 have HB0_3:=Hi30 (HB0_1.out.ext e_)
 have HB1_3:=Hi30 (HB1_1.out.ext e_)
 have HBT_3:=Hi30 ta_;have HE3:=Hi30 e_
 have HNT3:Hid (∀ q_,M2.S pk P.m q_->q_≠w.heap.size+1):=Hi30 (fm_up HBT_3.out.up HB1_1.out.lt)
 clear e_ ta_
 go_wp2_with fail
 refine (feasible_c P (P.rel P.first P.n) pk M2 q w1 w3 (HG.out.ext HX1.out) HE3.out HBT_3.out SZ hn hm hq1 hq2 (rel_good P)).mono ?_;rintro e w4 ⟨T4,M4,ta_,g_,e_,h_⟩
 have HX4:Hid (Ext w w4):=Hi30 (HX1.out.trans e_)
 have HB0_4:=Hi30 (HB0_1.out.ext e_)
 have HB1_4:=Hi30 (HB1_1.out.ext e_)
 have HBT_4:=Hi30 ta_;have HE4:=Hi30 e_
 have HNT4:Hid (∀ q_,M4.S pk P.m q_->q_≠w.heap.size+1):=Hi30 (fm_up HBT_4.out.up HB1_1.out.lt)
 have HG4:=Hi30 g_;have HQ4:=Hi30 (SZ T4 g_.inv);clear g_
 clear e_ ta_
 rcases h_ with ⟨rfl,hp⟩|⟨r,rfl,hb⟩
 ·have HP4:=Hi30 hp
  clear hp
  go_wp2_with fail
  refine (minimize_c P T4 pk M4 q w1 w4 (HG.out.ext HX1.out) HE4.out HBT_4.out SZ hn hm hq1 hq2 HG4.out HP4.out).mono ?_;rintro e w5 ⟨T5,M5,ta_,g_,e_,h_⟩
  have HX5:Hid (Ext w w5):=Hi30 (HX1.out.trans e_)
  have HB0_5:=Hi30 (HB0_1.out.ext e_)
  have HB1_5:=Hi30 (HB1_1.out.ext e_)
  have HBT_5:=Hi30 ta_;have HE5:=Hi30 e_
  have HNT5:Hid (∀ q_,M5.S pk P.m q_->q_≠w.heap.size+1):=Hi30 (fm_up HBT_5.out.up HB1_1.out.lt)
  have HG5:=Hi30 g_;have HQ5:=Hi30 (SZ T5 g_.inv);clear g_
  clear e_ ta_
  rcases h_ with ⟨a,rfl,hp,ha,ho,hw⟩|⟨rfl,hm5,hok⟩|⟨a,rfl,hm5,ha,ho,hw,hf⟩
  ·have HP5:=Hi30 hp;have HA5:=Hi30 ha;have HFL:=Hi30 (sol_u HG5.out hp ha ho hw);clear hp ha ho hw
   go_wp2_with fail
   refine (point_c P T5 pk _ _ _ _ _ _ (q:=q) (HG.out.ext (HX5.out)) HBT_5.out.tr hn hm).mono ?_;rintro e w6 ⟨kz1,CZ1,rfl,e6,g_,b_,c_⟩
   have HNB0Bz1:Hid (w.heap.size≠kz1):=Hi30 (Nat.ne_of_lt (Nat.lt_of_lt_of_le HB0_5.out.lt g_))
   have HNB1Bz1:Hid (w.heap.size+1≠kz1):=Hi30 (Nat.ne_of_lt (Nat.lt_of_lt_of_le HB1_5.out.lt g_))
   have HGEBz1:Hid (w.heap.size<=kz1):=Hi30 (Nat.le_trans HX5.out.size g_)
   have HX6:=Hi30 (HX5.out.trans e6)
   have HB0_6:=Hi30 (HB0_5.out.ext e6)
   have HB1_6:=Hi30 (HB1_5.out.ext e6)
   have HBT_6:=Hi30 (HBT_5.out.ext e6)
   clear e6
   have HBz1_6:=Hi30 b_;have HCBz1:=Hi30 c_;clear g_ b_ c_
   go_wp2_with fail
   refine (ray_c P T5 pk _ _ _ _ _ _ a (HG.out.ext (HX6.out)) HBT_6.out.tr HA5.out hn hm HQ5.out hq1 hq2).mono ?_;rintro e w7 ⟨kz2,CZ2,rfl,e7,g_,b_,c_⟩
   have HNB0Bz2:Hid (w.heap.size≠kz2):=Hi30 (Nat.ne_of_lt (Nat.lt_of_lt_of_le HB0_6.out.lt g_))
   have HNB1Bz2:Hid (w.heap.size+1≠kz2):=Hi30 (Nat.ne_of_lt (Nat.lt_of_lt_of_le HB1_6.out.lt g_))
   have HNBz1Bz2:Hid (kz1≠kz2):=Hi30 (Nat.ne_of_lt (Nat.lt_of_lt_of_le HBz1_6.out.lt g_))
   have HGEBz2:Hid (w.heap.size<=kz2):=Hi30 (Nat.le_trans HX6.out.size g_)
   have HX7:=Hi30 (HX6.out.trans e7)
   have HB0_7:=Hi30 (HB0_6.out.ext e7)
   have HB1_7:=Hi30 (HB1_6.out.ext e7)
   have HBT_7:=Hi30 (HBT_6.out.ext e7)
   have HBz1_7:=Hi30 (HBz1_6.out.ext e7)
   clear e7
   have HBz2_7:=Hi30 b_;have HCBz2:=Hi30 c_;clear g_ b_ c_
   have c1_0:=HB1_7.out.cell 0 rfl
   have f1_0:=HB1_7.out.free 0
   have c1_1:=HB1_7.out.cell 1 rfl
   have f1_1:=HB1_7.out.free 1
   have c1_2:=HB1_7.out.cell 2 rfl
   have f1_2:=HB1_7.out.free 2
   have c1_3:=HB1_7.out.cell 3 rfl
   have f1_3:=HB1_7.out.free 3
   have c1_4:=HB1_7.out.cell 4 rfl
   have f1_4:=HB1_7.out.free 4
   go_wp2_with fail
   refine wp_name (fun W=>Ext w W/\Blk W (w.heap.size) (#[.int .i64 (P.n:Int),.slice ro P.m rcap,vc]) 32/\Blk W (w.heap.size+1) (#[.int .i64 3,.string ⟨#[]⟩,.slice (some ⟨kz1,0,none⟩) P.n P.n,.slice none 0 0,.slice (some ⟨kz2,0,none⟩) P.n P.n]) 42/\TA w1 P T5 pk M5 W/\Blk W (kz1) (CZ1) 34/\Blk W (kz2) (CZ2) 34) ⟨(((((HX7.out.setCell (HGEB1.out) _).setCell (HGEB1.out) _).setCell (HGEB1.out) _).setCell (HGEB1.out) _).setCell (HGEB1.out) _),(((((HB0_7.out.other (a:=⟨w.heap.size+1,0,none⟩) _ (by first|omega|(simp only [];omega)|(simp;omega))).other (a:=⟨w.heap.size+1,1,none⟩) _ (by first|omega|(simp only [];omega)|(simp;omega))).other (a:=⟨w.heap.size+1,2,none⟩) _ (by first|omega|(simp only [];omega)|(simp;omega))).other (a:=⟨w.heap.size+1,3,none⟩) _ (by first|omega|(simp only [];omega)|(simp;omega))).other (a:=⟨w.heap.size+1,4,none⟩) _ (by first|omega|(simp only [];omega)|(simp;omega))),(((((HB1_7.out.set 0 (.int .i64 3)).set 1 (.string ⟨#[]⟩)).set 2 (.slice (some ⟨kz1,0,none⟩) P.n P.n)).set 3 (.slice none 0 0)).set 4 (.slice (some ⟨kz2,0,none⟩) P.n P.n)),(((((HBT_7.out.other (a:=⟨w.heap.size+1,0,none⟩) _ (HNT5.out)).other (a:=⟨w.heap.size+1,1,none⟩) _ (HNT5.out)).other (a:=⟨w.heap.size+1,2,none⟩) _ (HNT5.out)).other (a:=⟨w.heap.size+1,3,none⟩) _ (HNT5.out)).other (a:=⟨w.heap.size+1,4,none⟩) _ (HNT5.out)),(((((HBz1_7.out.other (a:=⟨w.heap.size+1,0,none⟩) _ (fun h=>HNB1Bz1.out h.symm)).other (a:=⟨w.heap.size+1,1,none⟩) _ (fun h=>HNB1Bz1.out h.symm)).other (a:=⟨w.heap.size+1,2,none⟩) _ (fun h=>HNB1Bz1.out h.symm)).other (a:=⟨w.heap.size+1,3,none⟩) _ (fun h=>HNB1Bz1.out h.symm)).other (a:=⟨w.heap.size+1,4,none⟩) _ (fun h=>HNB1Bz1.out h.symm)),(((((HBz2_7.out.other (a:=⟨w.heap.size+1,0,none⟩) _ (fun h=>HNB1Bz2.out h.symm)).other (a:=⟨w.heap.size+1,1,none⟩) _ (fun h=>HNB1Bz2.out h.symm)).other (a:=⟨w.heap.size+1,2,none⟩) _ (fun h=>HNB1Bz2.out h.symm)).other (a:=⟨w.heap.size+1,3,none⟩) _ (fun h=>HNB1Bz2.out h.symm)).other (a:=⟨w.heap.size+1,4,none⟩) _ (fun h=>HNB1Bz2.out h.symm))⟩ ?_
   rintro w8 ⟨e8,bB0_8,bB1_8,bBT_8,bBz1_8,bBz2_8⟩
   have HX8:=Hi30 e8;have HB0_8:=Hi30 bB0_8;have HB1_8:=Hi30 bB1_8;have HBT_8:=Hi30 bBT_8;have HBz1_8:=Hi30 bBz1_8;have HBz2_8:=Hi30 bBz2_8
   clear e8 bB0_8 bB1_8 bBT_8 bBz1_8 bBz2_8 c1_0 f1_0 c1_1 f1_1 c1_2 f1_2 c1_3 f1_3 c1_4 f1_4
   have gB1_0:=HB1_8.out.cell 0 rfl
   have gB1_1:=HB1_8.out.cell 1 rfl
   have gB1_2:=HB1_8.out.cell 2 rfl
   have gB1_3:=HB1_8.out.cell 3 rfl
   have gB1_4:=HB1_8.out.cell 4 rfl
   refine bodyPost_ret (v:=.agg #[.int .i64 3,.string ⟨#[]⟩,.slice (some ⟨kz1,0,none⟩) P.n P.n,.slice none 0 0,.slice (some ⟨kz2,0,none⟩) P.n P.n]) (by simp [results,Tryz.results38,go_sem,gB1_0,gB1_1,gB1_2,gB1_3,gB1_4]) rfl (sol_ret ⟨rfl,HX8.out,Or.inr (Or.inr ⟨_,_,_,_,rfl,HFL.out,pt_qb HQ5.out.c hq1,ry_qb HQ5.out.f HA5.out hq1,⟨_,_,rfl,HGEBz1.out,HBz1_8.out,HCBz1.out⟩,⟨_,_,rfl,HGEBz2.out,HBz2_8.out,HCBz2.out⟩⟩)⟩)
  ·have HM5:=Hi30 hm5;have HOK:=Hi30 hok;clear hm5 hok
   go_wp2_with fail
   have HB1L:Hid (w.heap.size+1<w1.heap.size):=Hi30 HB1_1.out.lt
   have HN01:Hid (w.heap.size≠w.heap.size+1):=Hi30 (vob_ne HB0_5.out HB1_5.out (by decide))
   go_wp2_with fail
   refine region_e [.val (.pointer (some ⟨pk,0,none⟩)),.val (.pointer (some ⟨pk,0,none⟩)),.val (.pointer (some ⟨pk,4,none⟩)),.val (.pointer (some ⟨pk,4,none⟩)),.val (.string (qs T5.wc)),.val (.pointer (some ⟨pk,0,none⟩)),.eff,.val (.pointer (some ⟨pk,0,none⟩)),.val (.pointer (some ⟨pk,0,none⟩)),.val (.pointer (some ⟨pk,0,none⟩)),.val (.pointer (some ⟨pk,4,none⟩)),.val (.agg #[.string (qs T5.wc),M5.vw P]),.val (.pointer (some ⟨w.heap.size,1,none⟩)),.val (.slice ro P.m rcap),.val (.int .i64 (P.m:Int)),.eff,.eff,.eff,.eff] (fun L g W=>(L 6=true->Nrow w W (g 6) P.n (fun j => .string (qs (P.pt T5 P.m j))))/\(L 15=true->Nrow w W (g 15) P.m (fun j => .string (qs (P.dl T5 T5.wf P.n j))))/\(L 16=true->g 16 = .agg #[g 15])/\(L 17=true->g 17 = .agg #[.int .i64 1,.string (qs T5.wc),g 6,g 15,.slice none 0 0])/\(if L 18=true then Blk W (w.heap.size+1) #[.int .i64 1,.string (qs T5.wc),g 6,g 15,.slice none 0 0] 42 else Blk W (w.heap.size+1) #[.int .i64 0,.string ⟨#[]⟩,.slice none 0 0,.slice none 0 0,.slice none 0 0] 42)) (S:=fun q=>q=w.heap.size+1) (by kernel_rfl) (by kernel_rfl) (by kernel_rfl) (Mv.refl HX5.out (fun q h=>h▸HGEB1.out)) ?_ ?_ ?_ ?_ (fun gv_ w6 hm_ he_=>?_)
   ·exact fun g=>⟨fun h=>absurd h (by decide),fun h=>absurd h (by decide),fun h=>absurd h (by decide),fun h=>absurd h (by decide),(by rw [if_neg (by decide)];exact HB1_5.out.drew)⟩
   ·exact fun L g W W1 h e=>⟨fun a=>(h.1 a).ext e,fun a=>(h.2.1 a).ext e,h.2.2.1,h.2.2.2.1,ite_ext h.2.2.2.2 (fun h=>h.ext e) (fun h=>h.ext e)⟩
   ·intro i v L g W hi h
    have n6_:i≠6:=fun e=>by subst e;exact absurd (show false=true from hi) (by decide)
    have n15_:i≠15:=fun e=>by subst e;exact absurd (show false=true from hi) (by decide)
    have n16_:i≠16:=fun e=>by subst e;exact absurd (show false=true from hi) (by decide)
    have n17_:i≠17:=fun e=>by subst e;exact absurd (show false=true from hi) (by decide)
    have n18_:i≠18:=fun e=>by subst e;exact absurd (show false=true from hi) (by decide)
    simp only [up_ne n6_,ug_ne n6_,up_ne n15_,ug_ne n15_,up_ne n16_,ug_ne n16_,up_ne n17_,ug_ne n17_,up_ne n18_,ug_ne n18_];exact h
   ·skip
    refine RV (fun A_ hs_ K_ hK_=>?_) ?_;· have q3_:=hs_.is 3 (.pointer (some ⟨pk,0,none⟩));go_simp;exact fin_ hK_
    refine RV (fun A_ hs_ K_ hK_=>?_) ?_;· have q39_:=hs_.val 0;go_simp;exact fin_ hK_
    refine RV (fun A_ hs_ K_ hK_=>?_) ?_;· have q40_:=hs_.val 1;go_simp;exact fin_ hK_
    refine RV (fun A_ hs_ K_ hK_=>?_) ?_;· have q41_:=hs_.val 2;go_simp;exact fin_ hK_
    refine RV (fun A_ hs_ K_ hK_=>?_) ?_;· have q42_:=hs_.val 3;have cT_4:=(HBT_5.out.mv hs_.mv (fun q hq h=>(fm_up HBT_5.out.up HB1L.out q hq) h)).c4;go_simp;exact fin_ hK_
    refine RV (fun A_ hs_ K_ hK_=>?_) ?_;· have q3_:=hs_.is 3 (.pointer (some ⟨pk,0,none⟩));go_simp;exact fin_ hK_
    refine RnEL.cons (fun L_ g_ A_ W_ hs_=>?_) ?_
    ·have q44_:=hs_.val 5;refine RnE.eff fun K_ hK_=>?_;have n17_:=hs_.no 17 (by decide) (by kernel_rfl);have n18_:=hs_.no 18 (by decide) (by kernel_rfl);have n6_:=hs_.not;have e_:=hs_.e;simp only [n17_,n18_,n6_,Bool.false_eq_true,if_false,if_true] at e_;have HN_:=Hi30 (And.intro n17_ (n18_));clear n17_ n18_ n6_;have HE_:=Hi30 e_;have HM_:=Hi30 hs_.mv;clear e_;go_simp;refine (point_c P T5 pk _ _ _ _ _ _ (q:=q) (HG.out.ext HM_.out.ext) (HBT_5.out.mv HM_.out (fun q hq h=>(fm_up HBT_5.out.up HB1L.out q hq) h)).tr hn hm).mono ?_;rintro e W9_ ⟨k_,C_,rfl,e9_,g9_,b9_,c9_⟩;exact hK_.out _ W9_ (HM_.out.trans e9_) (by simp only [up_at,ug_at,up_ne (show (6:Nat)≠15 by decide),ug_ne (show (6:Nat)≠15 by decide),up_ne (show (6:Nat)≠16 by decide),ug_ne (show (6:Nat)≠16 by decide),up_ne (show (6:Nat)≠17 by decide),ug_ne (show (6:Nat)≠17 by decide),up_ne (show (6:Nat)≠18 by decide),ug_ne (show (6:Nat)≠18 by decide),HN_.out.1,HN_.out.2,Bool.false_eq_true,if_false,if_true];exact ⟨fun _=>⟨k_,C_,rfl,Nat.le_trans HM_.out.ext.size g9_,b9_,c9_⟩,fun h=>(HE_.out.2.1 h).ext e9_,HE_.out.2.2.1,(fun h=>by cases h),HE_.out.2.2.2.2.ext e9_⟩)
    refine RV (fun A_ hs_ K_ hK_=>?_) ?_;· have q3_:=hs_.is 3 (.pointer (some ⟨pk,0,none⟩));go_simp;exact fin_ hK_
    refine RV (fun A_ hs_ K_ hK_=>?_) ?_;· have q3_:=hs_.is 3 (.pointer (some ⟨pk,0,none⟩));go_simp;exact fin_ hK_
    refine RV (fun A_ hs_ K_ hK_=>?_) ?_;· have q47_:=hs_.val 8;go_simp;exact fin_ hK_
    refine RV (fun A_ hs_ K_ hK_=>?_) ?_;· have q48_:=hs_.val 9;go_simp;exact fin_ hK_
    refine RV (fun A_ hs_ K_ hK_=>?_) ?_;· have q49_:=hs_.val 10;have cT_4:=(HBT_5.out.mv hs_.mv (fun q hq h=>(fm_up HBT_5.out.up HB1L.out q hq) h)).c4;have cT_5:=(HBT_5.out.mv hs_.mv (fun q hq h=>(fm_up HBT_5.out.up HB1L.out q hq) h)).c5;go_simp;exact fin_ hK_
    refine RV (fun A_ hs_ K_ hK_=>?_) ?_;· have q1_:=hs_.is 1 (.pointer (some ⟨w.heap.size,0,none⟩));go_simp;exact fin_ hK_
    refine RV (fun A_ hs_ K_ hK_=>?_) ?_;· have q51_:=hs_.val 12;have c0_1:=(hs_.mv.blk HB0_5.out (fun h=>absurd h HN01.out)).cell 1 rfl;go_simp;exact fin_ hK_
    refine RV (fun A_ hs_ K_ hK_=>?_) ?_;· have q52_:=hs_.val 13;go_simp;exact fin_ hK_
    refine RnEL.cons (fun L_ g_ A_ W_ hs_=>?_) ?_
    ·have q46_:=hs_.val 7;have q50_:=hs_.val 11;have q53_:=hs_.val 14;refine RnE.eff fun K_ hK_=>?_;have n16_:=hs_.no 16 (by decide) (by kernel_rfl);have n17_:=hs_.no 17 (by decide) (by kernel_rfl);have n18_:=hs_.no 18 (by decide) (by kernel_rfl);have n15_:=hs_.not;have e_:=hs_.e;simp only [n16_,n17_,n18_,n15_,Bool.false_eq_true,if_false,if_true] at e_;have HN_:=Hi30 (And.intro n16_ (And.intro n17_ (n18_)));clear n16_ n17_ n18_ n15_;have HE_:=Hi30 e_;have HM_:=Hi30 hs_.mv;clear e_;go_simp;refine (dual_c P T5 pk _ _ _ _ _ _ _ _ T5.wf (HG.out.ext HM_.out.ext) (HBT_5.out.mv HM_.out (fun q hq h=>(fm_up HBT_5.out.up HB1L.out q hq) h)).tr (HBT_5.out.mv HM_.out (fun q hq h=>(fm_up HBT_5.out.up HB1L.out q hq) h)).tr.wf HG5.out.inv.ol hn hm).mono ?_;rintro e W9_ ⟨k_,C_,rfl,e9_,g9_,b9_,c9_⟩;exact hK_.out _ W9_ (HM_.out.trans e9_) (by simp only [up_at,ug_at,up_ne (show (15:Nat)≠6 by decide),ug_ne (show (15:Nat)≠6 by decide),up_ne (show (15:Nat)≠16 by decide),ug_ne (show (15:Nat)≠16 by decide),up_ne (show (15:Nat)≠17 by decide),ug_ne (show (15:Nat)≠17 by decide),up_ne (show (15:Nat)≠18 by decide),ug_ne (show (15:Nat)≠18 by decide),HN_.out.1,HN_.out.2.1,HN_.out.2.2,Bool.false_eq_true,if_false,if_true];exact ⟨fun h=>(HE_.out.1 h).ext e9_,fun _=>⟨k_,C_,rfl,Nat.le_trans HM_.out.ext.size g9_,b9_,c9_⟩,(fun h=>by cases h),(fun h=>by cases h),HE_.out.2.2.2.2.ext e9_⟩)
    refine RnEL.cons (fun L_ g_ A_ W_ hs_=>?_) ?_
    ·have q54_:=hs_.eff 15;refine RnE.eff fun K_ hK_=>?_;have y15_:=hs_.yes 15 (by kernel_rfl);have n17_:=hs_.no 17 (by decide) (by kernel_rfl);have n18_:=hs_.no 18 (by decide) (by kernel_rfl);have n16_:=hs_.not;have e_:=hs_.e;simp only [y15_,n17_,n18_,n16_,Bool.false_eq_true,if_false,if_true] at e_;obtain ⟨k_,C_,es_,_⟩:=e_.2.1 trivial;rw [es_] at e_ q54_;have HES:=Hi30 es_;clear es_;have HN_:=Hi30 (And.intro y15_ (And.intro n17_ (n18_)));clear y15_ n17_ n18_ n16_;have HE_:=Hi30 e_;have HM_:=Hi30 hs_.mv;clear e_;go_simp;exact hK_.out _ _ HM_.out (by simp only [up_at,ug_at,up_ne (show (16:Nat)≠6 by decide),ug_ne (show (16:Nat)≠6 by decide),up_ne (show (16:Nat)≠15 by decide),ug_ne (show (16:Nat)≠15 by decide),up_ne (show (16:Nat)≠17 by decide),ug_ne (show (16:Nat)≠17 by decide),up_ne (show (16:Nat)≠18 by decide),ug_ne (show (16:Nat)≠18 by decide),HN_.out.1,HN_.out.2.1,HN_.out.2.2,HES.out,Bool.false_eq_true,if_false,if_true];exact ⟨HE_.out.1,fun _=>HE_.out.2.1 trivial,fun _=>by first|rfl|trivial,(fun h=>by cases h),HE_.out.2.2.2.2⟩)
    refine RnEL.cons (fun L_ g_ A_ W_ hs_=>?_) ?_
    ·have q43_:=hs_.val 4;have q45_:=hs_.eff 6;have q55_:=hs_.eff 16;refine RnE.eff fun K_ hK_=>?_;have y6_:=hs_.yes 6 (by kernel_rfl);have y15_:=hs_.yes 15 (by kernel_rfl);have y16_:=hs_.yes 16 (by kernel_rfl);have n18_:=hs_.no 18 (by decide) (by kernel_rfl);have n17_:=hs_.not;have e_:=hs_.e;simp only [y6_,y15_,y16_,n18_,n17_,Bool.false_eq_true,if_false,if_true] at e_;obtain ⟨k_,C_,es_,_⟩:=e_.2.1 trivial;obtain ⟨k1_,C1_,et_,_⟩:=e_.1 trivial;have e16_:=e_.2.2.1 trivial;rw [e16_] at q55_;rw [es_] at e_ q55_;rw [et_] at e_ q45_;have HES:=Hi30 es_;have HET:=Hi30 et_;clear es_ et_ e16_;have HN_:=Hi30 (And.intro y6_ (And.intro y15_ (And.intro y16_ (n18_))));clear y6_ y15_ y16_ n18_ n17_;have HE_:=Hi30 e_;have HM_:=Hi30 hs_.mv;clear e_;go_simp;exact hK_.out _ _ HM_.out (by simp only [up_at,ug_at,up_ne (show (17:Nat)≠6 by decide),ug_ne (show (17:Nat)≠6 by decide),up_ne (show (17:Nat)≠15 by decide),ug_ne (show (17:Nat)≠15 by decide),up_ne (show (17:Nat)≠16 by decide),ug_ne (show (17:Nat)≠16 by decide),up_ne (show (17:Nat)≠18 by decide),ug_ne (show (17:Nat)≠18 by decide),HN_.out.1,HN_.out.2.1,HN_.out.2.2.1,HN_.out.2.2.2,HES.out,HET.out,Bool.false_eq_true,if_false,if_true];exact ⟨fun _=>HE_.out.1 trivial,fun _=>HE_.out.2.1 trivial,fun _=>HE_.out.2.2.1 trivial,fun _=>by first|rfl|trivial,HE_.out.2.2.2.2⟩)
    refine RnEL.cons (fun L_ g_ A_ W_ hs_=>?_) ?_
    ·have q2_:=hs_.is 2 (.pointer (some ⟨w.heap.size+1,0,none⟩));have q56_:=hs_.eff 17;refine RnE.eff fun K_ hK_=>?_;have y6_:=hs_.yes 6 (by kernel_rfl);have y15_:=hs_.yes 15 (by kernel_rfl);have y16_:=hs_.yes 16 (by kernel_rfl);have y17_:=hs_.yes 17 (by kernel_rfl);have n18_:=hs_.not;have e_:=hs_.e;simp only [y6_,y15_,y16_,y17_,n18_,Bool.false_eq_true,if_false,if_true] at e_;obtain ⟨k_,C_,es_,_⟩:=e_.2.1 trivial;obtain ⟨k1_,C1_,et_,_⟩:=e_.1 trivial;have e17_:=e_.2.2.2.1 trivial;rw [e17_] at q56_;rw [es_] at e_ q56_;rw [et_] at e_ q56_;have HES:=Hi30 es_;have HET:=Hi30 et_;clear es_ et_ e17_;have c_0:=e_.2.2.2.2.cell 0 rfl;have f_0:=e_.2.2.2.2.free 0;have c_1:=e_.2.2.2.2.cell 1 rfl;have f_1:=e_.2.2.2.2.free 1;have c_2:=e_.2.2.2.2.cell 2 rfl;have f_2:=e_.2.2.2.2.free 2;have c_3:=e_.2.2.2.2.cell 3 rfl;have f_3:=e_.2.2.2.2.free 3;have c_4:=e_.2.2.2.2.cell 4 rfl;have f_4:=e_.2.2.2.2.free 4;have HN_:=Hi30 (And.intro y6_ (And.intro y15_ (And.intro y16_ (y17_))));clear y6_ y15_ y16_ y17_ n18_;have HE_:=Hi30 e_;have HM_:=Hi30 hs_.mv;clear e_;go_simp;exact hK_.out undef _ (Mv.setCell (Mv.setCell (Mv.setCell (Mv.setCell (Mv.setCell HM_.out (Or.inl rfl) _) (Or.inl rfl) _) (Or.inl rfl) _) (Or.inl rfl) _) (Or.inl rfl) _) (by simp only [up_at,ug_at,up_ne (show (18:Nat)≠6 by decide),ug_ne (show (18:Nat)≠6 by decide),up_ne (show (18:Nat)≠15 by decide),ug_ne (show (18:Nat)≠15 by decide),up_ne (show (18:Nat)≠16 by decide),ug_ne (show (18:Nat)≠16 by decide),up_ne (show (18:Nat)≠17 by decide),ug_ne (show (18:Nat)≠17 by decide),HN_.out.1,HN_.out.2.1,HN_.out.2.2.1,HN_.out.2.2.2,HES.out,HET.out,Bool.false_eq_true,if_false,if_true];exact ⟨fun _=>nrow5 (HE_.out.1 trivial) HE_.out.2.2.2.2,fun _=>nrow5 (HE_.out.2.1 trivial) HE_.out.2.2.2.2,fun _=>HE_.out.2.2.1 trivial,fun _=>HE_.out.2.2.2.1 trivial,set5 HE_.out.2.2.2.2⟩)
    exact RnEL.nil
   simp only [fse,Ke.value,puts,Act.put,List.setIfInBounds_toArray,List.set_cons_zero,List.set_cons_succ,Nat.reduceAdd]
   have HX6:Hid (Ext w w6):=Hi30 hm_.ext
   have HBT_6:=Hi30 (HBT_5.out.mv hm_ (fun q hq h=>(fm_up HBT_5.out.up HB1L.out q hq) h))
   have h_:=he_;simp only [if_true] at h_
   obtain ⟨vp,ep_⟩:∃ v,gv_ 6=v:=⟨_,rfl⟩
   obtain ⟨vd,ed_⟩:∃ v,gv_ 15=v:=⟨_,rfl⟩
   rw [ep_,ed_] at h_
   have HNP:=Hi30 (h_.1 trivial);have HND:=Hi30 (h_.2.1 trivial);have HB1_6:=Hi30 h_.2.2.2.2;clear h_ ep_ ed_
   clear hm_ he_
   go_wp2_with fail
   have gB1_0:=HB1_6.out.cell 0 rfl
   have gB1_1:=HB1_6.out.cell 1 rfl
   have gB1_2:=HB1_6.out.cell 2 rfl
   have gB1_3:=HB1_6.out.cell 3 rfl
   have gB1_4:=HB1_6.out.cell 4 rfl
   refine bodyPost_ret (v:=.agg #[.int .i64 1,.string (qs T5.wc),vp,vd,.slice none 0 0]) (by simp [results,Tryz.results38,go_sem,gB1_0,gB1_1,gB1_2,gB1_3,gB1_4]) rfl (sol_ret ⟨rfl,HX6.out,Or.inl ⟨_,_,_,_,_,rfl,best HM5.out HOK.out,HQ5.out.wc,pt_qb HQ5.out.c hq1,fun i _=>dl_qb hq1 HQ5.out.wf P.n i (Nat.le_refl _),HNP.out,HND.out⟩⟩)
  ·have HA5:=Hi30 ha;have HFL:=Hi30 (sol_f hm5 ha ho hw hf);clear hm5 ha ho hw hf
   go_wp2_with fail
   refine (point_c P T5 pk _ _ _ _ _ _ (q:=q) (HG.out.ext (HX5.out)) HBT_5.out.tr hn hm).mono ?_;rintro e w6 ⟨kz1,CZ1,rfl,e6,g_,b_,c_⟩
   have HNB0Bz1:Hid (w.heap.size≠kz1):=Hi30 (Nat.ne_of_lt (Nat.lt_of_lt_of_le HB0_5.out.lt g_))
   have HNB1Bz1:Hid (w.heap.size+1≠kz1):=Hi30 (Nat.ne_of_lt (Nat.lt_of_lt_of_le HB1_5.out.lt g_))
   have HGEBz1:Hid (w.heap.size<=kz1):=Hi30 (Nat.le_trans HX5.out.size g_)
   have HX6:=Hi30 (HX5.out.trans e6)
   have HB0_6:=Hi30 (HB0_5.out.ext e6)
   have HB1_6:=Hi30 (HB1_5.out.ext e6)
   have HBT_6:=Hi30 (HBT_5.out.ext e6)
   clear e6
   have HBz1_6:=Hi30 b_;have HCBz1:=Hi30 c_;clear g_ b_ c_
   go_wp2_with fail
   refine (ray_c P T5 pk _ _ _ _ _ _ a (HG.out.ext (HX6.out)) HBT_6.out.tr HA5.out hn hm HQ5.out hq1 hq2).mono ?_;rintro e w7 ⟨kz2,CZ2,rfl,e7,g_,b_,c_⟩
   have HNB0Bz2:Hid (w.heap.size≠kz2):=Hi30 (Nat.ne_of_lt (Nat.lt_of_lt_of_le HB0_6.out.lt g_))
   have HNB1Bz2:Hid (w.heap.size+1≠kz2):=Hi30 (Nat.ne_of_lt (Nat.lt_of_lt_of_le HB1_6.out.lt g_))
   have HNBz1Bz2:Hid (kz1≠kz2):=Hi30 (Nat.ne_of_lt (Nat.lt_of_lt_of_le HBz1_6.out.lt g_))
   have HGEBz2:Hid (w.heap.size<=kz2):=Hi30 (Nat.le_trans HX6.out.size g_)
   have HX7:=Hi30 (HX6.out.trans e7)
   have HB0_7:=Hi30 (HB0_6.out.ext e7)
   have HB1_7:=Hi30 (HB1_6.out.ext e7)
   have HBT_7:=Hi30 (HBT_6.out.ext e7)
   have HBz1_7:=Hi30 (HBz1_6.out.ext e7)
   clear e7
   have HBz2_7:=Hi30 b_;have HCBz2:=Hi30 c_;clear g_ b_ c_
   have c1_0:=HB1_7.out.cell 0 rfl
   have f1_0:=HB1_7.out.free 0
   have c1_1:=HB1_7.out.cell 1 rfl
   have f1_1:=HB1_7.out.free 1
   have c1_2:=HB1_7.out.cell 2 rfl
   have f1_2:=HB1_7.out.free 2
   have c1_3:=HB1_7.out.cell 3 rfl
   have f1_3:=HB1_7.out.free 3
   have c1_4:=HB1_7.out.cell 4 rfl
   have f1_4:=HB1_7.out.free 4
   go_wp2_with fail
   refine wp_name (fun W=>Ext w W/\Blk W (w.heap.size) (#[.int .i64 (P.n:Int),.slice ro P.m rcap,vc]) 32/\Blk W (w.heap.size+1) (#[.int .i64 3,.string ⟨#[]⟩,.slice (some ⟨kz1,0,none⟩) P.n P.n,.slice none 0 0,.slice (some ⟨kz2,0,none⟩) P.n P.n]) 42/\TA w1 P T5 pk M5 W/\Blk W (kz1) (CZ1) 34/\Blk W (kz2) (CZ2) 34) ⟨(((((HX7.out.setCell (HGEB1.out) _).setCell (HGEB1.out) _).setCell (HGEB1.out) _).setCell (HGEB1.out) _).setCell (HGEB1.out) _),(((((HB0_7.out.other (a:=⟨w.heap.size+1,0,none⟩) _ (by first|omega|(simp only [];omega)|(simp;omega))).other (a:=⟨w.heap.size+1,1,none⟩) _ (by first|omega|(simp only [];omega)|(simp;omega))).other (a:=⟨w.heap.size+1,2,none⟩) _ (by first|omega|(simp only [];omega)|(simp;omega))).other (a:=⟨w.heap.size+1,3,none⟩) _ (by first|omega|(simp only [];omega)|(simp;omega))).other (a:=⟨w.heap.size+1,4,none⟩) _ (by first|omega|(simp only [];omega)|(simp;omega))),(((((HB1_7.out.set 0 (.int .i64 3)).set 1 (.string ⟨#[]⟩)).set 2 (.slice (some ⟨kz1,0,none⟩) P.n P.n)).set 3 (.slice none 0 0)).set 4 (.slice (some ⟨kz2,0,none⟩) P.n P.n)),(((((HBT_7.out.other (a:=⟨w.heap.size+1,0,none⟩) _ (HNT5.out)).other (a:=⟨w.heap.size+1,1,none⟩) _ (HNT5.out)).other (a:=⟨w.heap.size+1,2,none⟩) _ (HNT5.out)).other (a:=⟨w.heap.size+1,3,none⟩) _ (HNT5.out)).other (a:=⟨w.heap.size+1,4,none⟩) _ (HNT5.out)),(((((HBz1_7.out.other (a:=⟨w.heap.size+1,0,none⟩) _ (fun h=>HNB1Bz1.out h.symm)).other (a:=⟨w.heap.size+1,1,none⟩) _ (fun h=>HNB1Bz1.out h.symm)).other (a:=⟨w.heap.size+1,2,none⟩) _ (fun h=>HNB1Bz1.out h.symm)).other (a:=⟨w.heap.size+1,3,none⟩) _ (fun h=>HNB1Bz1.out h.symm)).other (a:=⟨w.heap.size+1,4,none⟩) _ (fun h=>HNB1Bz1.out h.symm)),(((((HBz2_7.out.other (a:=⟨w.heap.size+1,0,none⟩) _ (fun h=>HNB1Bz2.out h.symm)).other (a:=⟨w.heap.size+1,1,none⟩) _ (fun h=>HNB1Bz2.out h.symm)).other (a:=⟨w.heap.size+1,2,none⟩) _ (fun h=>HNB1Bz2.out h.symm)).other (a:=⟨w.heap.size+1,3,none⟩) _ (fun h=>HNB1Bz2.out h.symm)).other (a:=⟨w.heap.size+1,4,none⟩) _ (fun h=>HNB1Bz2.out h.symm))⟩ ?_
   rintro w8 ⟨e8,bB0_8,bB1_8,bBT_8,bBz1_8,bBz2_8⟩
   have HX8:=Hi30 e8;have HB0_8:=Hi30 bB0_8;have HB1_8:=Hi30 bB1_8;have HBT_8:=Hi30 bBT_8;have HBz1_8:=Hi30 bBz1_8;have HBz2_8:=Hi30 bBz2_8
   clear e8 bB0_8 bB1_8 bBT_8 bBz1_8 bBz2_8 c1_0 f1_0 c1_1 f1_1 c1_2 f1_2 c1_3 f1_3 c1_4 f1_4
   have gB1_0:=HB1_8.out.cell 0 rfl
   have gB1_1:=HB1_8.out.cell 1 rfl
   have gB1_2:=HB1_8.out.cell 2 rfl
   have gB1_3:=HB1_8.out.cell 3 rfl
   have gB1_4:=HB1_8.out.cell 4 rfl
   refine bodyPost_ret (v:=.agg #[.int .i64 3,.string ⟨#[]⟩,.slice (some ⟨kz1,0,none⟩) P.n P.n,.slice none 0 0,.slice (some ⟨kz2,0,none⟩) P.n P.n]) (by simp [results,Tryz.results38,go_sem,gB1_0,gB1_1,gB1_2,gB1_3,gB1_4]) rfl (sol_ret ⟨rfl,HX8.out,Or.inr (Or.inr ⟨_,_,_,_,rfl,HFL.out,pt_qb HQ5.out.c hq1,ry_qb HQ5.out.f HA5.out hq1,⟨_,_,rfl,HGEBz1.out,HBz1_8.out,HCBz1.out⟩,⟨_,_,rfl,HGEBz2.out,HBz2_8.out,HCBz2.out⟩⟩)⟩)
 ·have HBAD:=Hi30 hb
  clear hb
  have c0_1:=HB0_4.out.cell 1 rfl
  go_wp2_with fail
  refine (refutation_c P T4 pk _ _ _ _ _ _ r (HG.out.ext (HX4.out)) HBT_4.out.tr HBAD.out.lt HBAD.out.slack (HG4.out.inv.bl _ HBAD.out.lt) HG4.out.inv.ol hn hm HQ4.out hq1 hq2).mono ?_;rintro e w5 ⟨kz1,CZ1,rfl,e5,g_,b_,c_⟩
  have HNB0Bz1:Hid (w.heap.size≠kz1):=Hi30 (Nat.ne_of_lt (Nat.lt_of_lt_of_le HB0_4.out.lt g_))
  have HNB1Bz1:Hid (w.heap.size+1≠kz1):=Hi30 (Nat.ne_of_lt (Nat.lt_of_lt_of_le HB1_4.out.lt g_))
  have HGEBz1:Hid (w.heap.size<=kz1):=Hi30 (Nat.le_trans HX4.out.size g_)
  have HX5:=Hi30 (HX4.out.trans e5)
  have HB0_5:=Hi30 (HB0_4.out.ext e5)
  have HB1_5:=Hi30 (HB1_4.out.ext e5)
  have HBT_5:=Hi30 (HBT_4.out.ext e5)
  clear e5 c0_1
  have HBz1_5:=Hi30 b_;have HCBz1:=Hi30 c_;clear g_ b_ c_
  have c1_0:=HB1_5.out.cell 0 rfl
  have f1_0:=HB1_5.out.free 0
  have c1_1:=HB1_5.out.cell 1 rfl
  have f1_1:=HB1_5.out.free 1
  have c1_2:=HB1_5.out.cell 2 rfl
  have f1_2:=HB1_5.out.free 2
  have c1_3:=HB1_5.out.cell 3 rfl
  have f1_3:=HB1_5.out.free 3
  have c1_4:=HB1_5.out.cell 4 rfl
  have f1_4:=HB1_5.out.free 4
  go_wp2_with fail
  refine wp_name (fun W=>Ext w W/\Blk W (w.heap.size) (#[.int .i64 (P.n:Int),.slice ro P.m rcap,vc]) 32/\Blk W (w.heap.size+1) (#[.int .i64 2,.string ⟨#[]⟩,.slice none 0 0,.slice (some ⟨kz1,0,none⟩) P.m P.m,.slice none 0 0]) 42/\TA w1 P T4 pk M4 W/\Blk W (kz1) (CZ1) 34) ⟨(((((HX5.out.setCell (HGEB1.out) _).setCell (HGEB1.out) _).setCell (HGEB1.out) _).setCell (HGEB1.out) _).setCell (HGEB1.out) _),(((((HB0_5.out.other (a:=⟨w.heap.size+1,0,none⟩) _ (by first|omega|(simp only [];omega)|(simp;omega))).other (a:=⟨w.heap.size+1,1,none⟩) _ (by first|omega|(simp only [];omega)|(simp;omega))).other (a:=⟨w.heap.size+1,2,none⟩) _ (by first|omega|(simp only [];omega)|(simp;omega))).other (a:=⟨w.heap.size+1,3,none⟩) _ (by first|omega|(simp only [];omega)|(simp;omega))).other (a:=⟨w.heap.size+1,4,none⟩) _ (by first|omega|(simp only [];omega)|(simp;omega))),(((((HB1_5.out.set 0 (.int .i64 2)).set 1 (.string ⟨#[]⟩)).set 2 (.slice none 0 0)).set 3 (.slice (some ⟨kz1,0,none⟩) P.m P.m)).set 4 (.slice none 0 0)),(((((HBT_5.out.other (a:=⟨w.heap.size+1,0,none⟩) _ (HNT4.out)).other (a:=⟨w.heap.size+1,1,none⟩) _ (HNT4.out)).other (a:=⟨w.heap.size+1,2,none⟩) _ (HNT4.out)).other (a:=⟨w.heap.size+1,3,none⟩) _ (HNT4.out)).other (a:=⟨w.heap.size+1,4,none⟩) _ (HNT4.out)),(((((HBz1_5.out.other (a:=⟨w.heap.size+1,0,none⟩) _ (fun h=>HNB1Bz1.out h.symm)).other (a:=⟨w.heap.size+1,1,none⟩) _ (fun h=>HNB1Bz1.out h.symm)).other (a:=⟨w.heap.size+1,2,none⟩) _ (fun h=>HNB1Bz1.out h.symm)).other (a:=⟨w.heap.size+1,3,none⟩) _ (fun h=>HNB1Bz1.out h.symm)).other (a:=⟨w.heap.size+1,4,none⟩) _ (fun h=>HNB1Bz1.out h.symm))⟩ ?_
  rintro w6 ⟨e6,bB0_6,bB1_6,bBT_6,bBz1_6⟩
  have HX6:=Hi30 e6;have HB0_6:=Hi30 bB0_6;have HB1_6:=Hi30 bB1_6;have HBT_6:=Hi30 bBT_6;have HBz1_6:=Hi30 bBz1_6
  clear e6 bB0_6 bB1_6 bBT_6 bBz1_6 c1_0 f1_0 c1_1 f1_1 c1_2 f1_2 c1_3 f1_3 c1_4 f1_4
  have gB1_0:=HB1_6.out.cell 0 rfl
  have gB1_1:=HB1_6.out.cell 1 rfl
  have gB1_2:=HB1_6.out.cell 2 rfl
  have gB1_3:=HB1_6.out.cell 3 rfl
  have gB1_4:=HB1_6.out.cell 4 rfl
  refine bodyPost_ret (v:=.agg #[.int .i64 2,.string ⟨#[]⟩,.slice none 0 0,.slice (some ⟨kz1,0,none⟩) P.m P.m,.slice none 0 0]) (by simp [results,Tryz.results38,go_sem,gB1_0,gB1_1,gB1_2,gB1_3,gB1_4]) rfl (sol_ret ⟨rfl,HX6.out,Or.inr (Or.inl ⟨_,_,rfl,refutes HG4.out HBAD.out.lt HBAD.out.slack HBAD.out.neg HBAD.out.all,ref_qb HQ4.out HBAD.out.lt hq1,⟨_,_,rfl,HGEBz1.out,HBz1_6.out,HCBz1.out⟩⟩)⟩)
end Go.Proofs.YtcenemaadnlknaaGreatDoor
