/- Part 20. -/
import Derived.Test.YtmahadmefplbnaaGreatDoorQTDB
import Derived.Test.YtmahadmefplbnaaGreatDoorQTD19
import Derived.Deep.RegionHeld3
import Derived.Deep.RegionWith
import Derived.Deep.CutRange
import Derived.Deep.DeepCutAuto
set_option maxRecDepth 100000
set_option maxHeartbeats 2000000
open Go.Proofs.Tryz
namespace Go.Proofs.YtmahadmefplbnaaGreatDoor
open Go Go.RowKit
attribute [local go_sem] Oper.semAt_some
theorem mZ (a d:Nat) (va vb:Value) (w:World) (ha:cz w va a) (hb:cz w vb d) (hd:0<d) (hd1:d<1000000000) (fa:Fit a) :
    Calls prog 246 #[va,vb] w (j7 w (a / d) (a % d)):=by
 by_cases h:a<d
 ·have:=oE a d va vb w ha hb h;rwa[Nat.div_eq_of_lt h,Nat.mod_eq_of_lt h]
 ·exact tb a d va vb w ha hb hd hd1 fa ae
def CS:Nat:=1900
structure Fd(n:Nat):Prop where
 out:n<1000000000 ^ CS
theorem Fd.ju{a x:Nat}(h:Fd a)(hx:x<=a*1000000000*1000000000):Fit x:=by
 have h1:a*1000000000*1000000000<1000000000 ^ (CS+2):=by
  rw[Nat.pow_add,Nat.pow_two,Nat.mul_assoc];exact Nat.mul_lt_mul_of_pos_right h.out af
 have h2:1000000000 ^ (CS+2)<=1000000000 ^ kR:=Nat.pow_le_pow_right af af;exact⟨Nat.lt_of_le_of_lt hx (Nat.lt_of_lt_of_le h1 h2)⟩
theorem Fit.mono{a b:Nat}(h:Fit a)(hb:b<=a):Fit b:=⟨Nat.lt_of_le_of_lt hb h.out⟩
theorem Fd.vH{a f:Nat}(h:Fd a)(hf:f<1000000000):Fit (a*f):=by
 refine h.ju (Nat.le_trans (Nat.mul_le_mul_left a (Nat.le_of_lt hf)) ?_);exact Nat.le_mul_of_pos_right _ (Nat.succ_pos _)
theorem Ext.grownBy{A B:World}(h:Ext A B):A.grownBy B none:=⟨h.os,h.tape,h.output,h.size,fun k hk _=>h.block k hk⟩
structure LD(w W:World)(g n:Nat)(vb:Value)(Q:List Value):Prop where
 own:W.ownsRow g 245 1 (.slice (some ⟨g,0,none⟩) n n) n Q
 q:ax W (w.heap.size+1) #[.slice (some ⟨g,0,none⟩) n n] 214
 b:ax W w.heap.size #[vb] 214
 ext:Ext w W
theorem LD.grown{w A B:World}{g n:Nat}{vb:Value}{Q:List Value}(h:LD w A g n vb Q)(e:Ext A B):LD w B g n vb Q :=
 ⟨h.own.kept e.grownBy (Or.inr (by simp[Value.ownBlock])),h.q.ext e,h.b.ext e,h.ext.trans e⟩
theorem LD.store {w A:World} {g n:Nat} {vb:Value} {Q:List Value} (h:LD w A g n vb Q) (i:Nat) (u:Value) (hw:w.heap.size+2<=g) :
    LD w (A.setCell ⟨g,i,none⟩ u) g n vb (Q.set i u) :=
 ⟨(h.own.stored i u).1,h.q.other _ (by show w.heap.size+1≠g;omega),h.b.other _ (by show w.heap.size≠g;omega),h.ext.setCell (by show w.heap.size<=g;omega) _⟩
theorem LD.lt{w W:World}{g n:Nat}{vb:Value}{Q:List Value}(h:LD w W g n vb Q):g<W.heap.size:=by
 rcases h.own.2 with⟨h',_⟩|⟨g',cap',cur,h',_,hh,_⟩
 ·simp at h'
 ·simp only[Value.slice.injEq,Option.some.injEq,Addr.mk.injEq,and_true,true_and] at h';rcases Nat.lt_or_ge g' W.heap.size with h''|h''
  ·omega
  ·rw[Array.getElem?_eq_none h''] at hh;simp at hh
theorem LD.at_{w W:World}{g n:Nat}{vb:Value}{Q:List Value}(h:LD w W g n vb Q)(j:Nat)(hj:j<n):∃ u,W.cell? ⟨g,j,none⟩=some u :=
 ⟨_,(h.own.cellAt j ae).trans (List.getElem?_eq_getElem (by have:=h.own.1;omega))⟩
theorem cz.xD{W:World}{B o k c n g i:Nat}(h:cz W (.slice (some ⟨B,o,none⟩) k c) n)(hB:g≠B)(u:Value):cz (W.setCell ⟨g,i,none⟩ u) (.slice (some ⟨B,o,none⟩) k c) n:=by
 obtain⟨l,⟨ad,cap,b,off,hv,h1,h2,h3,h4⟩,c,e⟩:=h;refine⟨l,⟨ad,cap,b,off,hv,h1,h2,fun h0=>⟨(h3 h0).1,by simpa using(h3 h0).2⟩,fun i hi=>?_⟩,c,e⟩;have h5:=(h3 ae).1;have h6:b=B:=by
  simp only[Value.slice.injEq] at hv;rw[← hv.1] at h5;simp at h5;exact h5.1.symm
 refine(World.cell?_setCell_other _ _ _ _ ?_).trans (h4 i hi);intro e';exact hB ((congrArg Addr.block e').trans h6)
theorem xB{qs:List Nat}{j:Nat}(h:qs[j]?.getD 0=0):qs.set j 0=qs:=by
 apply List.ext_getElem?;intro i;rw[List.getElem?_set];split
 ·rename_i e;subst e;split
  ·rename_i hl;rw[List.getElem?_eq_getElem hl] at h ⊢;simpa using h.symm
  ·rename_i hl;rw[List.getElem?_eq_none ae]
 ·rfl
theorem mR{W:World}{k y z b o:Nat}{i:Int}{x:Option Addr}{t:TypeId}(hb:ax W k #[.slice x y z] t)(hc:W.cell? ⟨b,o,none⟩=some (.int .u64 i))(u:Value):(W.setCell ⟨k,0,none⟩ u).cell? ⟨b,o,none⟩=some (.int .u64 i):=by
 have e:(⟨k,0,none⟩:Addr)≠⟨b,o,none⟩:=by
  intro e;rw[← e,hb.cell 0 rfl] at hc;simp at hc
 exact(World.cell?_setCell_other _ _ _ _ e).trans hc
theorem cz.jH{W:World}{v:Value}{n k y z:Nat}{x:Option Addr}{t:TypeId}(h:cz W v n)(hb:ax W k #[.slice x y z] t)(u:Value):cz (W.setCell ⟨k,0,none⟩ u) v n:=by
 refine h.carry (by simp) (fun b o i hi=>?_);have e:(⟨k,0,none⟩:Addr)≠⟨b,o,none⟩:=by
  intro e;rw[← e,hb.cell 0 rfl] at hi;simp at hi
 exact(World.cell?_setCell_other _ _ _ _ e).trans hi
theorem cz.list{w:World}{v:Value}{n:Nat}(h:cz w v n):∃ l,Holds .u64 w v l/\Canon 1000000000 l/\mv 1000000000 l=n:=h
theorem tW{a b:Nat}(h:a<=b):fR a b<=0:=by
 unfold fR;split
 ·omega
 ·rw[if_neg ae];omega
theorem y6{X y A:Nat}(h1:X<y*1000000000)(h2:y<=A):X<=A*1000000000:=Nat.le_trans (Nat.le_of_lt h1) (Nat.mul_le_mul_right _ h2)
theorem rp{y A d:Nat}(h1:y<=A)(h2:d<1000000000):y*d<=A*1000000000:=Nat.mul_le_mul h1 (Nat.le_of_lt h2)
theorem vT(top bt:Nat)(h:top<1000000000):(if (999999999:Int)<IntKind.u64.wrap ((top:Int) / (bt:Int)) then 999999999 else IntKind.u64.wrap ((top:Int) / (bt:Int)))=((min (top / bt) (1000000000-1):Nat):Int):=by
 have e:(top:Int) / (bt:Int)=((top / bt:Nat):Int):=by simp
 have hle:top / bt<=top:=Nat.div_le_self _ _;rw[e];generalize top / bt=q at *;rw[IntWalk.u64_in (q:Int) ae];split <;> omega
theorem sU(top y bt:Nat):(if (999999999:Int)<((top:Int)*1000000000+(y:Int)) / (bt:Int) then 999999999 else((top:Int)*1000000000+(y:Int)) / (bt:Int))=((min ((top*1000000000+y) / bt) (1000000000-1):Nat):Int):=by
 have e:((top:Int)*1000000000+(y:Int)) / (bt:Int)=(((top*1000000000+y) / bt:Nat):Int):=by simp
 rw[e];generalize (top*1000000000+y) / bt=q at *;split <;> omega
set_option maxHeartbeats 16000000 in
theorem rC (a b:Nat) (va vb:Value) (w:World) (ha:cz w va a) (hb:cz w vb b) (hb1:1000000000<=b) (fa:Fd a) (h:b<=a) :
    Calls prog 246 #[va,vb] w (j7 w (a / b) (a % b)):=by
 have HA:=aj ha;have HB:=aj hb;have FA:=aj fa;obtain⟨ad,na,ca,rfl⟩:=ha.slice;obtain⟨M,hM,cM,hMv⟩:=hb.list;have hm2:2<=M.length:=by
  rcases Nat.lt_or_ge M.length 2 with h2|h2
  ·have h3:=iw cM.lt;have h4:1000000000 ^ M.length<=1000000000 ^ 1:=Nat.pow_le_pow_right af ae;omega
  ·exact h2
 have hMl:M.length<=2000:=(fa.ju (x:=b) ae).len cM hMv;obtain⟨bb,ob,cb,rfl,h1b,hcb,hbb,hCb⟩:=hM.cells ae;obtain⟨m,hm⟩:∃ m,m=M.length:=⟨_,rfl⟩
 rw[← hm] at hm2 hMl h1b hCb HB ⊢;have hcl:w.cell? ⟨bb,ob+(m-1),none⟩=some (.int .u64 ((M[m-1]?.getD 0:Nat):Int)):=by simpa using hCb (m-1) ae
 obtain⟨bt,hbt⟩:∃ bt,bt=M[m-1]?.getD 0:=⟨_,rfl⟩
 have hbt1:bt<1000000000:=by rw[hbt];exact aK af cM.lt _
 have hbt0:0<bt:=by rw[hbt,hm];exact tE cM ae
 rw[← hbt] at hcl;obtain⟨f,hf⟩:∃ f,f=1000000000 / (bt+1):=⟨_,rfl⟩
 have hf0:0<f:=by rw[hf];exact Nat.div_pos ae ae
 have hf1:f<1000000000:=by rw[hf];exact Nat.div_lt_self ae ae
 have HF:=aj hf;have hcmp:=jP h;have hcmp':¬ fR a b<0:=ae;clear hm hbt hf hM cM hMv hCb ha hb;obtain⟨i0,hi,hz0,hz1,hz2⟩:=info_parts iV;have e1:Ext w ((w.alloc (.cells #[.slice (some ⟨bb,ob,none⟩) m cb] 214)).alloc (.cells #[.slice none 0 0] 214)):=((Ext.refl w).alloc _).alloc _;have b3:=(ax.new w #[.slice (some ⟨bb,ob,none⟩) m cb] 214).alloc (.cells #[.slice none 0 0] 214);have b4:=ax.new (w.alloc (.cells #[.slice (some ⟨bb,ob,none⟩) m cb] 214)) #[.slice none 0 0] 214;rw[World.size_alloc] at b4;go_enter func246,ntmps246;go_wp2_with (first
  | (go_at_call 251;refine cto (dj a b _ _ _ (HA.o.ext e1) (HB.o.ext e1)) fun w1 e2=>?_;have b3':=b3.ext e2;have b4':=b4.ext e2;have c3:=b3'.cell 0 rfl;have c4:=b4'.cell 0 rfl;have f4:=b4'.free 0;have c5:=(e1.trans e2).keeps hcl))
 have hfi:(1000000000:Int) / ((bt:Int)+1)=(f:Int):=by rw[HF.o];simp
 have hm1:((m:Int) == 1)=false:=by simp;omega
 rw[hfi,hm1];clear hfi hm1;have fita:Fit a:=FA.out.ju ae;have fitb:Fit b:=FA.out.ju ae;go_cut [0] from 59 to 64 (fun v wx=>∃ ad' na' ca' bd' nb' cb',v = .slice ad' na' ca'/\cz wx (.slice ad' na' ca') (a*f)/\cz wx (.slice bd' nb' cb') (b*f)/\Ext w wx/\ax wx w.heap.size #[.slice bd' nb' cb'] 214/\ax wx (w.heap.size+1) #[.slice none 0 0] 214)
 case first =>
  have x1:Ext w w1.drew:=(e1.trans e2).drew;go_region_with (first
   | (go_at_call 273;(with_reducible refine(kZ a f (.slice ad na ca) _ (HA.o.ext x1) fita hf1).mono ?_);rintro e w2 ⟨va',rfl,e3,ma⟩;obtain⟨ad',na',ca',rfl⟩:=ma.slice;have b3'':=b3'.drew.ext e3;have c3'':=b3''.cell 0 rfl)
   | (go_at_call 273;(with_reducible refine(kZ b f (.slice (some ⟨bb,ob,none⟩) m cb) _ (HB.o.ext (x1.trans e3)) fitb hf1).mono ?_);rintro e w3 ⟨vb',rfl,e4,mb⟩;obtain⟨bd',nb',cb',rfl⟩:=mb.slice;have b3q:=b3''.ext e4;have c3q:=b3q.cell 0 rfl;have f3q:=b3q.free 0))
  all_goals (go_wp2_with fail;go_meet)
  all_goals exact⟨_,_,_,_,_,_,rfl,(ma.ext e4).jH b3q _,mb.jH b3q _,((x1.trans e3).trans e4).setCell (Nat.le_refl _) _,b3q.set 0 _,((b4'.drew.ext e3).ext e4).other _ (by show w.heap.size+1≠w.heap.size;omega)⟩
 case rest =>
  obtain⟨ad',na',ca',bd',nb',cb',rfl,ma,mb,x3,k3,k4⟩:=hcut;clear b3' b4' c3 c4 f4 c5 e2 b3 b4 e1 hcl;have MA:=aj ma;have MB:=aj mb;obtain⟨L,hL,cL,hLv⟩:=ma.list;obtain⟨N,hN,cN,hNv⟩:=mb.list;have hLl:=(FA.out.vH hf1).len cL hLv;obtain⟨n,hn⟩:∃ n,n=L.length:=⟨_,rfl⟩
  obtain⟨p,hp⟩:∃ p,p=N.length:=⟨_,rfl⟩
  have hbf:0<b*f:=Nat.mul_pos ae hf0;have hp0:0<N.length:=by
   rcases Nat.eq_zero_or_pos N.length with h0|h0
   ·rw[List.length_eq_zero_iff.1 h0] at hNv;simp[mv] at hNv;omega
   ·exact h0
  obtain⟨gb,go,cb2,hNe,h1N,hcN,hbN,hCN⟩:=hN.cells hp0;cases hNe;obtain⟨ad2,ca2,ba,oa,hLe,h1L,hcL,hbL,hCL⟩:=hL;cases hLe;rw[← hn] at hLl h1L hbL hCL MA ⊢;rw[← hp] at hp0 h1N hCN MB k3;obtain⟨bt2,hbt2⟩:∃ bt2,bt2=N[p-1]?.getD 0:=⟨_,rfl⟩
  have hbt2l:bt2<1000000000:=by rw[hbt2];exact aK af cN.lt _
  have hbt20:0<bt2:=by rw[hbt2,hp];exact tE cN ae
  have hct:wc.cell? ⟨gb,go+(p-1),none⟩=some (.int .u64 (bt2:Int)):=by rw[hbt2];simpa using hCN (p-1) ae
  have hpl:p<=2000:=by rw[hp];exact((FA.out.vH hf1).mono (Nat.mul_le_mul_right f h)).len cN hNv
  have HLV:=aj hLv;have HNV:=aj hNv;have HN:=aj hn;have HP:=aj hp;have HB2:=aj hbt2;have H1:=aj hbL;have H2:=aj hCL;have H3:=aj hCN;have CL:=aj cL;have CN:=aj cN;have K4:=aj k4;clear hLv hNv hn hp hbt2 hbL hCL hCN cL cN hN ma mb;have c3:=k3.cell 0 rfl;have c4:=k4.cell 0 rfl;have f4:=k4.free 0;go_wp2_with (first
   | (at_make;refine wpList_make_full _ rfl _ _ 214 rfl wc.heap.size 245 i0 (.int .u64 0) 1 underlying214 hi hz0 hz1 _ _ _ _ n rfl rfl ae ae (by rw[hz2];omega) (by unfold maxLen;omega) (Nat.le_refl _) ?_;intro w2 hown2 hgrow2;have k3':=k3.grown hgrow2 (by simp);have k4':=k4.grown hgrow2 (by simp);have c3:=k3'.cell 0 rfl;have c4:=k4'.cell 0 rfl;have f4:=k4'.free 0;have s2:=hgrow2.size;have ct':=mR k4' (((Ext.refl wc).grown hgrow2 (fun k h=>by cases h)).keeps hct) (.slice (some ⟨wc.heap.size,0,none⟩) n n);have c3':=(k3'.other (a:=⟨w.heap.size+1,0,none⟩) (.slice (some ⟨wc.heap.size,0,none⟩) n n) (by show w.heap.size≠w.heap.size+1;omega)).cell 0 rfl))
  obtain⟨W0,hW0⟩:∃ W0,w2.setCell ⟨w.heap.size+1,0,none⟩ (.slice (some ⟨wc.heap.size,0,none⟩) n n)=W0:=⟨_,rfl⟩
  have sz0:w.heap.size+2<=wc.heap.size:=by have:=K4.out.lt;omega
  have e02:Ext wc w2:=(Ext.refl wc).grown hgrow2 (fun k h=>by cases h);have kNW:∀ W,Below wc.heap.size W0 W->cz W (.slice (some ⟨gb,go,none⟩) p cb') (b*f):=by
   intro W hW;refine⟨N,⟨_,cb',gb,go,by rw[HP.o],by rw[← HP.o];omega,hcN,fun _=>⟨rfl,Nat.lt_of_lt_of_le hbN (Nat.le_trans (Nat.le_trans e02.size (by rw[← hW0];simp)) hW.size)⟩,fun i hi=>?_⟩,CN.out,HNV.o⟩;refine(hW.cell (p:=⟨gb,go+i,none⟩) hbN).trans ?_;rw[← hW0];exact mR k4' (e02.keeps (H3.o i (by rw[HP.o];exact hi))) _
  have kLW:∀ W,Below wc.heap.size W0 W->∀ j,j<n->W.cell? ⟨ba,oa+j,none⟩=some (.int .u64 ((L[j]?.getD 0:Nat):Int)):=by
   intro W hW j hj;refine(hW.cell (p:=⟨ba,oa+j,none⟩) (H1.o ae).2).trans ?_;rw[← hW0];have:=mR k4' (e02.keeps (H2.o j hj)) (.slice (some ⟨wc.heap.size,0,none⟩) n n);simpa using this
  have hst:LD w W0 wc.heap.size n (.slice (some ⟨gb,go,none⟩) p cb') ((List.replicate n 0).map fun(x:Nat)=>Value.int .u64 x):=by
   rw[eA] at hown2;rw[← hW0];exact⟨ownsRow_setCell_other hown2 (by simp[Value.ownBlock];omega) _,k4'.set 0 _,k3'.other (a:=⟨w.heap.size+1,0,none⟩) _ (by show w.heap.size≠w.heap.size+1;omega),(x3.trans e02).setCell (by show w.heap.size<=w.heap.size+1;omega) _⟩
  have sW0:wc.heap.size<=W0.heap.size:=by rw[← hW0];have:=e02.size;simpa using this
  have KN:=aj kNW;have KL:=aj kLW;have HST:=aj hst;have HMB:=aj hbf;rw[hW0];clear hW0 kNW kLW hst k3 k4 k3' k4' c3 c4 f4 c3' ct' hct hown2 hgrow2;go_loopw [5,11] (fun r i W=>∃ (k rr:Nat) (z:Int) (qs:List Nat),k<=n/\z=(k:Int)-1/\i = .int .i64 z/\cz W r rr/\LD w W wc.heap.size n (.slice (some ⟨gb,go,none⟩) p cb') (qs.map fun(x:Nat)=>Value.int .u64 x)/\Below wc.heap.size W0 W/\dH 1000000000 (b*f) L qs k rr)
   (fun _ i _=>((intOf i)+1).toNat)
  case atStart=>exact⟨n,0,_,List.replicate n 0,Nat.le_refl _,rfl,rfl,cz.zero _,HST.o,Below.refl _ _,by rw[HN.o];exact dH.start af HMB.o⟩
  case round =>
   obtain⟨k,rr,z,qs,hk,hz,rfl,hr,hld,hbe,hinv⟩:=hrel;by_cases hk0:0<k
   ·obtain⟨j,rfl⟩:∃ j,k=j+1:=⟨k-1,ae⟩
    obtain rfl:z=(j:Int):=ae;clear hz;obtain⟨ad3,nr,ca3,rfl⟩:=hr.slice;obtain⟨R0,hR0,cR0,hR0v⟩:=hr.list;have hR0l:R0.length<=2000:=((FA.out.vH hf1).mono (Nat.le_trans (Nat.le_of_lt hinv.rem) (Nat.mul_le_mul_right f h))).len cR0 hR0v;have hle:wc.heap.size<=wr.heap.size:=Nat.le_trans sW0 hbe.size;have hrem:=hinv.rem;obtain⟨x,hx⟩:∃ x,x=L[j]?.getD 0:=⟨_,rfl⟩
    have hxlt:x<1000000000:=by rw[hx];exact aK af CL.out.lt j
    have hcell1:wr.cell? ⟨ba,oa+j,none⟩=some (.int .u64 (x:Int)):=by rw[hx];exact KL.out wr hbe j ae
    have hix1:=aQ 214 245 underlying214 fX (cap:=ca') (fun h=>(H1.o h).1) j ae;have hbx:aC 1000000000 (x :: R0):=by
     intro y hy;rcases List.mem_cons.1 hy with h|h
     ·omega
     ·exact cR0.lt y h
    have c3:=hld.b.cell 0 rfl;have HBX:=aj hbx;have HX:=aj hx;have HINV:=aj hinv;have HLD:=aj hld;have HRV:=aj hR0v;obtain⟨X,hX⟩:∃ X,X=rr*1000000000+x:=⟨_,rfl⟩
    have mvx:mv 1000000000 (x :: R0)=X:=by rw[hX,← hR0v];simp only[mv];omega
    have hXB:X<b*f*1000000000:=by rw[hX];have:=Nat.mul_le_mul_right 1000000000 hinv.rem;omega
    have hs:=hinv.step (by rw[← HN.o];omega) CL.out.lt HMB.o;rw[← hx,← hX] at hs;have MVX:=aj mvx;have HXB:=aj hXB;have HS:=aj hs;clear hbx hx hinv hld mvx cR0 hr hR0v hX hXB hs;by_cases hlt:X<b*f
    ·have hcl:fR (X) (b*f)<0:=by rw[iS hlt];decide
     go_wp2_with (first
      | (at_builtin;refine ig wr rfl (.tmp 85) (.tmp 86) 214 rfl 245 i0 underlying214 hi hz0 hz1 hz2 x R0 (.slice ad3 nr ca3) rfl rfl hR0 ae ?_;intro ad4 ca4 w4 hh he4;have c3':=(HLD.o.grown he4).b.cell 0 rfl;have hx4:=hbe.trans (Below.mono he4 hle);have hle4:=Nat.le_trans hle he4.size)
      | (go_at_call 238;refine(ik (x :: R0) _ _ hh HBX.o).mono ?_;rintro e w5 ⟨v5,rfl,rfl,hm5⟩;rw[MVX.out] at hm5;obtain⟨ad5,n5,ca5,rfl⟩:=hm5.slice)
      | (go_at_call 251;refine cto (dj (X) (b*f) _ _ _ hm5 (KN.out _ hx4)) fun w6 e6=>?_))
     go_roundw
     case rel =>
      refine⟨j,X,(j:Int)-1,qs,ae,rfl,rfl,hm5.ext e6,HLD.o.grown (he4.trans e6),hx4.trans (Below.mono e6 hle4),?_⟩;have hs:=HS.o;rw[Nat.div_eq_of_lt hlt,Nat.mod_eq_of_lt hlt,xB (HINV.o.zero j ae)] at hs;exact hs
     case measure=>simp[intOf]
    ·have hcl:=jP (show b*f<=X by omega);have hcl':¬ fR (X) (b*f)<0:=Int.not_lt.2 hcl;go_wp2_with (first
      | (at_builtin;refine ig wr rfl (.tmp 85) (.tmp 86) 214 rfl 245 i0 underlying214 hi hz0 hz1 hz2 x R0 (.slice ad3 nr ca3) rfl rfl hR0 ae ?_;intro ad4 ca4 w4 hh he4;have c3':=(HLD.o.grown he4).b.cell 0 rfl;have hx4:=hbe.trans (Below.mono he4 hle);have hle4:=Nat.le_trans hle he4.size)
      | (go_at_call 238;refine(ik (x :: R0) _ _ hh HBX.o).mono ?_;rintro e w5 ⟨v5,rfl,rfl,hm5⟩;rw[MVX.out] at hm5;obtain⟨ad5,n5,ca5,rfl⟩:=hm5.slice))
     refine(dj (X) (b*f) _ _ _ hm5 (KN.out _ hx4)).mono ?_;rintro e w6 ⟨rfl,e6⟩;have hld6:=HLD.o.grown (he4.trans e6);have hx6:=hx4.trans (Below.mono e6 hle4);have hle6:=Nat.le_trans hle4 e6.size;have hm6:=hm5.ext e6;obtain⟨R,hR,cR,hRv⟩:=hm6.list;have hRl:=vS af cR CN.out (by rw[hRv,HNV.o];omega) (by rw[hRv,HNV.o];exact HXB.o);obtain⟨b5,o5,ca5,hve,h1R,hcR,hbR,hCR⟩:=hR.cells (by rw[← HP.o] at hRl;omega);cases hve;have hve6:=hm6;have HCR:=aj hCR;have HR:=aj hR;have CR:=aj cR;have HRV:=aj hRv;clear hCR hR cR hRv hR0 hh;rw[← HP.o] at hRl;have c3'':=hld6.b.cell 0 rfl;rcases hRl with hRl|hRl
     ·rw[hRl] at h1R hve6 ⊢;obtain⟨top,htop⟩:∃ top,top=R[p-1]?.getD 0:=⟨_,rfl⟩
      have ctop:w6.cell? ⟨b5,o5+(p-1),none⟩=some (.int .u64 (top:Int)):=by rw[htop];simpa using HCR.o (p-1) ae
      have htl:top<1000000000:=by rw[htop];exact aK af CR.out.lt _
      have HRL:=aj hRl;have HT:=aj htop;have HM6:=aj hve6;clear hRl htop hm6 hve6 hm5;go_upto_region 25 with fail
      rw[vT top bt2 htl];have HG:=aj (show X / (b*f)<=min (top / bt2) (1000000000-1) from q9 (p:=p-1) af hbt20 (by
       rw[← HRV.o,HT.o,← HRL.o];exact zX CR.out.lt (by rw[HRL.o];omega)) (by
       have:=xk (B:=1000000000) (M:=N) (by rw[← HP.o];exact hp0);rw[← HP.o,← HB2.o,HNV.o] at this;exact this) HXB.o)
      have hd0l:min (top / bt2) (1000000000-1)<1000000000:=Nat.lt_of_le_of_lt (Nat.min_le_right _ _) af;generalize min (top / bt2) (1000000000-1)=d0 at *;clear ctop HT htl;have hmf:Fit (b*f):=(FA.out.vH hf1).mono (Nat.mul_le_mul_right f h);go_wp2_with (go_at_call 273;refine(kZ (b*f) d0 _ _ (KN.out _ hx6) hmf hd0l).mono ?_;rintro e w7 ⟨v7,rfl,e7,hm7⟩;obtain⟨ad7,n7,ca7,rfl⟩:=hm7.slice);go_loopw [12,13] (fun dv t W=>∃ dn:Nat,dv = .int .u64 (dn:Int)/\X / (b*f)<=dn/\dn<1000000000/\cz W t (b*f*dn)/\Ext w6 W) (fun dv _ _=>(intOf dv).toNat)
      case atStart=>exact⟨d0,rfl,HG.o,hd0l,hm7,e7⟩
      case round =>
       obtain⟨dn,rfl,hDn,hdl,hmt,e8⟩:=hrel;obtain⟨ad8,n8,ca8,rfl⟩:=hmt.slice;have hld8:=hld6.grown e8;have hx8:=hx6.trans (Below.mono e8 hle6);have hle8:=Nat.le_trans hle6 e8.size;have c38:=hld8.b.cell 0 rfl;by_cases hgt:X<b*f*dn
       ·have hcg:0<fR (b*f*dn) X:=by rw[ld hgt];decide
        have hdn0:0<dn:=by
         rcases Nat.eq_zero_or_pos dn with h0|h0
         ·rw[h0,Nat.mul_zero] at hgt;exact absurd hgt (Nat.not_lt_zero _)
         ·exact h0
        have hfit:Fit (b*f*dn):=FA.out.ju (rp (Nat.le_trans (Nat.mul_le_mul_right f h) (Nat.mul_le_mul_left a (Nat.le_of_lt hf1))) hdl);have hle1:b*f<=b*f*dn:=Nat.le_mul_of_pos_right _ hdn0;have HDN:=aj hDn;have HGT:=aj hgt;clear hDn hgt;go_wp2_with (first
         | (go_at_call 251;refine cto (dj (b*f*dn) X _ _ _ hmt (HM6.o.ext e8)) fun w9 e9=>?_;have c39:=(hld8.grown e9).b.cell 0 rfl)
         | (go_at_call 252;refine(gS (b*f*dn) (b*f) _ _ _ (hmt.ext e9) (KN.out _ (hx8.trans (Below.mono e9 hle8))) hfit hle1).mono ?_;rintro e w10 ⟨v10,rfl,e10,hm10⟩;obtain⟨ad10,n10,ca10,rfl⟩:=hm10.slice))
        go_roundw
        case rel =>
         refine⟨dn-1,by simp;omega,?_,ae,?_,(e8.trans e9).trans e10⟩
         ·have:=Nat.div_lt_of_lt_mul HGT.o;omega
         ·rw[Nat.mul_sub_one];exact hm10
        case measure=>simp[intOf];omega
       ·have hcg:=tW (show b*f*dn<=X by omega);have hcg':¬ 0<fR (b*f*dn) X:=Int.not_lt.2 hcg;obtain rfl:dn=X / (b*f):=Nat.le_antisymm ((Nat.le_div_iff_mul_le HMB.o).2 (by rw[Nat.mul_comm];omega)) hDn;have hXf:Fit X:=FA.out.ju (y6 HXB.o (Nat.le_trans (Nat.mul_le_mul_right f h) (Nat.mul_le_mul_left a (Nat.le_of_lt hf1))));have hq1:X / (b*f)*1<=X:=by rw[Nat.mul_one];exact Nat.div_le_self _ _
        have hle1:b*f*(X / (b*f))<=X:=Nat.mul_div_le _ _;have eMod:X-b*f*(X / (b*f))=X % (b*f):=by have:=Nat.div_add_mod X (b*f);omega
        have EM:=aj eMod;obtain⟨dq,hdq⟩:∃ dq,dq=X / (b*f):=⟨_,rfl⟩
        have HDQ:=aj hdq;rw[← hdq] at hdl hmt hle1 EM hcg hcg' ⊢;clear hdq hq1 hgt hDn eMod HG;go_wp2_with (first
         | (go_at_call 251;refine cto (dj (b*f*dq) X _ _ _ hmt (HM6.o.ext e8)) fun w9 e9=>?_))
        have hld9:=(hld8.grown e9)
        have hx9:=hx8.trans (Below.mono e9 hle8);have hle9:=Nat.le_trans hle8 e9.size;have b49:=hld9.q;have c49:=b49.cell 0 rfl;have hm9:=hmt.ext e9;have hm69:=HM6.o.ext (e8.trans e9);have hg9:=hld9.lt;have d9:Ext w9 w9.drew:=(Ext.refl w9).drew;clear c3' c3'' c38 c3 hcg hcg'
        first
         | (go_region_with (first
             | (go_at_call 252;(with_reducible refine(pE X (b*f*dq) _ _ _ (hm69.ext d9) (hm9.ext d9) hXf hle1).mono ?_);rintro e w11 ⟨k11,c11,rfl,e11,hm11⟩;have hld11:=hld9.grown (d9.trans e11);have c411:=hld11.q.cell 0 rfl;obtain⟨u11,hu11⟩:=hld11.at_ j ae;have fq11:=hld11.own.frozenAt j)))
         | fail "region 29"
        all_goals go_wp2_with fail
        all_goals go_roundw
        all_goals first
         | (show(intOf (Value.int .i64 ((j:Int)-1))+1).toNat<(intOf (Value.int .i64 (j:Int))+1).toNat;simp[intOf];done)
         | skip
        all_goals
         refine⟨j,X % (b*f),(j:Int)-1,qs.set j dq,ae,rfl,rfl,?_,?_,?_,?_⟩
         ·have:=hm11.xD (g:=wc.heap.size) (i:=j) (by show wc.heap.size≠w9.heap.size;omega) (.int .u64 (dq:Int));rw[EM.out] at this
          first|exact this|exact this.ext ((Ext.refl _).drew)
         ·have:=hld11.store j (.int .u64 (dq:Int)) sz0;rw[← List.map_set] at this
          first|exact this|exact this.grown ((Ext.refl _).drew)
         ·have:=(hx9.trans (Below.mono (d9.trans e11) hle9)).setCell (p:=⟨wc.heap.size,j,none⟩) (Nat.le_refl _) (.int .u64 (dq:Int))
          first|exact this|exact this.drew
         ·rw[HDQ.o];exact HS.o
     ·rw[hRl] at h1R hve6 ⊢;obtain⟨top,htop⟩:∃ top,top=R[p]?.getD 0:=⟨_,rfl⟩
      obtain⟨y,hy⟩:∃ y,y=R[p-1]?.getD 0:=⟨_,rfl⟩
      have ctop:w6.cell? ⟨b5,o5+p,none⟩=some (.int .u64 (top:Int)):=by rw[htop];simpa using HCR.o p ae
      have ctop2:w6.cell? ⟨b5,o5+(p-1),none⟩=some (.int .u64 (y:Int)):=by rw[hy];simpa using HCR.o (p-1) ae
      have htl:top<1000000000:=by rw[htop];exact aK af CR.out.lt _
      have hyl:y<1000000000:=by rw[hy];exact aK af CR.out.lt _
      have HRL:=aj hRl;have HT:=aj htop;have HY:=aj hy;have HM6:=aj hve6;clear hRl htop hy hm6 hve6 hm5;go_upto_region 25 with fail
      rw[sU top y bt2];have HG:=aj (show X / (b*f)<=min ((top*1000000000+y) / bt2) (1000000000-1) from q9 (p:=p-1) af hbt20 (by
       rw[← HRV.o,HT.o,HY.o];have:=zW (B:=1000000000) (R:=R) CR.out.lt (by rw[HRL.o];omega);rw[HRL.o,show p+1-2=p-1 by omega,Nat.add_sub_cancel] at this;exact this) (by
       have:=xk (B:=1000000000) (M:=N) (by rw[← HP.o];exact hp0);rw[← HP.o,← HB2.o,HNV.o] at this;exact this) HXB.o)
      have hd0l:min ((top*1000000000+y) / bt2) (1000000000-1)<1000000000:=Nat.lt_of_le_of_lt (Nat.min_le_right _ _) af;generalize min ((top*1000000000+y) / bt2) (1000000000-1)=d0 at *;clear ctop ctop2 HT HY htl hyl;have hmf:Fit (b*f):=(FA.out.vH hf1).mono (Nat.mul_le_mul_right f h);go_wp2_with (go_at_call 273;refine(kZ (b*f) d0 _ _ (KN.out _ hx6) hmf hd0l).mono ?_;rintro e w7 ⟨v7,rfl,e7,hm7⟩;obtain⟨ad7,n7,ca7,rfl⟩:=hm7.slice);go_loopw [12,13] (fun dv t W=>∃ dn:Nat,dv = .int .u64 (dn:Int)/\X / (b*f)<=dn/\dn<1000000000/\cz W t (b*f*dn)/\Ext w6 W) (fun dv _ _=>(intOf dv).toNat)
      case atStart=>exact⟨d0,rfl,HG.o,hd0l,hm7,e7⟩
      case round =>
       obtain⟨dn,rfl,hDn,hdl,hmt,e8⟩:=hrel;obtain⟨ad8,n8,ca8,rfl⟩:=hmt.slice;have hld8:=hld6.grown e8;have hx8:=hx6.trans (Below.mono e8 hle6);have hle8:=Nat.le_trans hle6 e8.size;have c38:=hld8.b.cell 0 rfl;by_cases hgt:X<b*f*dn
       ·have hcg:0<fR (b*f*dn) X:=by rw[ld hgt];decide
        have hdn0:0<dn:=by
         rcases Nat.eq_zero_or_pos dn with h0|h0
         ·rw[h0,Nat.mul_zero] at hgt;exact absurd hgt (Nat.not_lt_zero _)
         ·exact h0
        have hfit:Fit (b*f*dn):=FA.out.ju (rp (Nat.le_trans (Nat.mul_le_mul_right f h) (Nat.mul_le_mul_left a (Nat.le_of_lt hf1))) hdl);have hle1:b*f<=b*f*dn:=Nat.le_mul_of_pos_right _ hdn0;have HDN:=aj hDn;have HGT:=aj hgt;clear hDn hgt;go_wp2_with (first
         | (go_at_call 251;refine cto (dj (b*f*dn) X _ _ _ hmt (HM6.o.ext e8)) fun w9 e9=>?_;have c39:=(hld8.grown e9).b.cell 0 rfl)
         | (go_at_call 252;refine(gS (b*f*dn) (b*f) _ _ _ (hmt.ext e9) (KN.out _ (hx8.trans (Below.mono e9 hle8))) hfit hle1).mono ?_;rintro e w10 ⟨v10,rfl,e10,hm10⟩;obtain⟨ad10,n10,ca10,rfl⟩:=hm10.slice))
        go_roundw
        case rel =>
         refine⟨dn-1,by simp;omega,?_,ae,?_,(e8.trans e9).trans e10⟩
         ·have:=Nat.div_lt_of_lt_mul HGT.o;omega
         ·rw[Nat.mul_sub_one];exact hm10
        case measure=>simp[intOf];omega
       ·have hcg:=tW (show b*f*dn<=X by omega);have hcg':¬ 0<fR (b*f*dn) X:=Int.not_lt.2 hcg;obtain rfl:dn=X / (b*f):=Nat.le_antisymm ((Nat.le_div_iff_mul_le HMB.o).2 (by rw[Nat.mul_comm];omega)) hDn;have hXf:Fit X:=FA.out.ju (y6 HXB.o (Nat.le_trans (Nat.mul_le_mul_right f h) (Nat.mul_le_mul_left a (Nat.le_of_lt hf1))));have hq1:X / (b*f)*1<=X:=by rw[Nat.mul_one];exact Nat.div_le_self _ _
        have hle1:b*f*(X / (b*f))<=X:=Nat.mul_div_le _ _;have eMod:X-b*f*(X / (b*f))=X % (b*f):=by have:=Nat.div_add_mod X (b*f);omega
        have EM:=aj eMod;obtain⟨dq,hdq⟩:∃ dq,dq=X / (b*f):=⟨_,rfl⟩
        have HDQ:=aj hdq;rw[← hdq] at hdl hmt hle1 EM hcg hcg' ⊢;clear hdq hq1 hgt hDn eMod HG;go_wp2_with (first
         | (go_at_call 251;refine cto (dj (b*f*dq) X _ _ _ hmt (HM6.o.ext e8)) fun w9 e9=>?_))
        have hld9:=(hld8.grown e9)
        have hx9:=hx8.trans (Below.mono e9 hle8);have hle9:=Nat.le_trans hle8 e9.size;have b49:=hld9.q;have c49:=b49.cell 0 rfl;have hm9:=hmt.ext e9;have hm69:=HM6.o.ext (e8.trans e9);have hg9:=hld9.lt;have d9:Ext w9 w9.drew:=(Ext.refl w9).drew;clear c3' c3'' c38 c3 hcg hcg'
        first
         | (go_region_with (first
             | (go_at_call 252;(with_reducible refine(pE X (b*f*dq) _ _ _ (hm69.ext d9) (hm9.ext d9) hXf hle1).mono ?_);rintro e w11 ⟨k11,c11,rfl,e11,hm11⟩;have hld11:=hld9.grown (d9.trans e11);have c411:=hld11.q.cell 0 rfl;obtain⟨u11,hu11⟩:=hld11.at_ j ae;have fq11:=hld11.own.frozenAt j)))
         | fail "region 29"
        all_goals go_wp2_with fail
        all_goals go_roundw
        all_goals first
         | (show(intOf (Value.int .i64 ((j:Int)-1))+1).toNat<(intOf (Value.int .i64 (j:Int))+1).toNat;simp[intOf];done)
         | skip
        all_goals
         refine⟨j,X % (b*f),(j:Int)-1,qs.set j dq,ae,rfl,rfl,?_,?_,?_,?_⟩
         ·have:=hm11.xD (g:=wc.heap.size) (i:=j) (by show wc.heap.size≠w9.heap.size;omega) (.int .u64 (dq:Int));rw[EM.out] at this
          first|exact this|exact this.ext ((Ext.refl _).drew)
         ·have:=hld11.store j (.int .u64 (dq:Int)) sz0;rw[← List.map_set] at this
          first|exact this|exact this.grown ((Ext.refl _).drew)
         ·have:=(hx9.trans (Below.mono (d9.trans e11) hle9)).setCell (p:=⟨wc.heap.size,j,none⟩) (Nat.le_refl _) (.int .u64 (dq:Int))
          first|exact this|exact this.drew
         ·rw[HDQ.o];exact HS.o
   ·obtain rfl:k=0:=ae;obtain rfl:z=-1:=ae;obtain⟨ad3,nr,ca3,rfl⟩:=hr.slice;obtain⟨eq,er⟩:=hinv.done;rw[HLV.o] at eq er;have e1:mv 1000000000 qs=a / b:=by rw[eq,Nat.mul_div_mul_right _ _ hf0]
    have e2:rr / f=a % b:=by rw[er,Nat.mul_mod_mul_right,Nat.mul_div_cancel _ hf0]
    have hrfit:Fit rr:=(FA.out.vH hf1).mono (by rw[er];exact Nat.mod_le _ _);have hqs:=hinv.lt;have E1:=aj e1;have E2:=aj e2;have HLD:=aj hld;clear e1 e2 eq er hld hinv hz hk hk0;have hfm:cz (wr.alloc (.cells #[.int .u64 (f:Int)] 245)) (.slice (some ⟨wr.heap.size,0,none⟩) 1 1) f:=⟨[f],n4,⟨by intro y hy;simp at hy;omega,by simp;omega⟩,cS _ _⟩
    have ea:Ext wr (wr.alloc (.cells #[.int .u64 (f:Int)] 245)):=(Ext.refl wr).alloc _;go_wp2_with (first
     | (go_at_call 246;refine(mZ rr f _ _ _ (hr.ext ea) hfm hf0 hf1 hrfit).mono ?_;rintro e w4 ⟨vq4,vr4,rfl,e4,mq4,mr4⟩;obtain⟨qa4,qn4,qc4,rfl⟩:=mq4.slice;obtain⟨ra4,rn4,rc4,rfl⟩:=mr4.slice;have hld4:=HLD.o.grown (ea.trans e4);have c44:=hld4.q.cell 0 rfl;have f44:=hld4.q.free 0;have hh4:=Holds.bX hld4.own)
     | (go_at_call 238;refine(ik qs _ _ hh4 hqs).mono ?_;rintro e w5 ⟨v5,rfl,rfl,hm5⟩;obtain⟨ad5,n5,ca5,rfl⟩:=hm5.slice))
    rw[E2.out] at mq4;rw[E1.out] at hm5;have c5:=(hld4.q.set 0 (.slice ad5 n5 ca5)).cell 0 rfl;refine bodyPost_ret (v:=.tuple #[.slice ad5 n5 ca5,.slice qa4 qn4 qc4]) (by simp[results,results246,go_sem,c5]) rfl ⟨_,_,rfl,hld4.ext.setCell (by show w.heap.size<=w.heap.size+1;omega) _,hm5.jH hld4.q _,mq4.jH hld4.q _⟩
theorem iF (a b:Nat) (va vb:Value) (w:World) (ha:cz w va a) (hb:cz w vb b) (hb0:0<b) (fa:Fd a) :
    Calls prog 246 #[va,vb] w (j7 w (a / b) (a % b)):=by
 by_cases h1:a<b
 ·have:=oE a b va vb w ha hb h1;rwa[Nat.div_eq_of_lt h1,Nat.mod_eq_of_lt h1]
 ·by_cases h2:b<1000000000
  ·exact mZ a b va vb w ha hb hb0 h2 (fa.ju ae)
  ·exact rC a b va vb w ha hb ae fa ae
end Go.Proofs.YtmahadmefplbnaaGreatDoor
