/- Part 17. -/
import Derived.Test.YtmahadmefplbnaaGreatDoorQVLB
import Derived.Test.YtmahadmefplbnaaGreatDoorQVL16
import Derived.Deep.RegionHeld3
import Derived.Deep.RegionWith
import Derived.Deep.CutRange
import Derived.Deep.DeepCutAuto
set_option maxRecDepth 100000
set_option maxHeartbeats 2000000
open Go.Proofs.Tryz
namespace Go.Proofs.YtmahadmefplbnaaGreatDoor
open Go Go.RowKit
attribute [local go_sem] Oper.semAt_some
theorem xh (a d:Nat) (va vb:Value) (w:World) (ha:eV w va a) (hb:eV w vb d) (hd:0<d) (hd1:d<1000000000) (fa:Fit a) :
    Calls prog 246 #[va,vb] w (sB w (a / d) (a % d)):=by
 by_cases h:a<d
 ·have:=zq a d va vb w ha hb h;rwa[Nat.div_eq_of_lt h,Nat.mod_eq_of_lt h]
 ·exact G7 a d va vb w ha hb hd hd1 fa ae
def X8:Nat:=1900
structure Fd(n:Nat):Prop where
 out:n<1000000000 ^ X8
theorem Fd.A7{a x:Nat}(h:Fd a)(hx:x<=a*1000000000*1000000000):Fit x:=by
 have h1:a*1000000000*1000000000<1000000000 ^ (X8+2):=by
  rw[Nat.pow_add,Nat.pow_two,Nat.mul_assoc];exact Nat.mul_lt_mul_of_pos_right h.out af
 have h2:1000000000 ^ (X8+2)<=1000000000 ^ D6:=Nat.pow_le_pow_right af af;exact⟨Nat.lt_of_le_of_lt hx (Nat.lt_of_lt_of_le h1 h2)⟩
theorem Fit.mono{a b:Nat}(h:Fit a)(hb:b<=a):Fit b:=⟨Nat.lt_of_le_of_lt hb h.out⟩
theorem Fd.KH{a f:Nat}(h:Fd a)(hf:f<1000000000):Fit (a*f):=by
 refine h.A7 (Nat.le_trans (Nat.mul_le_mul_left a (Nat.le_of_lt hf)) ?_);exact Nat.le_mul_of_pos_right _ (Nat.succ_pos _)
theorem Ext.grownBy{A B:World}(h:Ext A B):A.grownBy B none:=⟨h.os,h.tape,h.output,h.size,fun k hk _=>h.block k hk⟩
structure LD(w W:World)(g n:Nat)(vb:Value)(Q:List Value):Prop where
 own:W.ownsRow g 245 1 (.slice (some ⟨g,0,none⟩) n n) n Q
 q:ay W (w.heap.size+1) #[.slice (some ⟨g,0,none⟩) n n] 214
 b:ay W w.heap.size #[vb] 214
 ext:Ext w W
theorem LD.grown{w A B:World}{g n:Nat}{vb:Value}{Q:List Value}(h:LD w A g n vb Q)(e:Ext A B):LD w B g n vb Q :=
 ⟨h.own.kept e.grownBy (Or.inr (by simp[Value.ownBlock])),h.q.ext e,h.b.ext e,h.ext.trans e⟩
theorem LD.store {w A:World} {g n:Nat} {vb:Value} {Q:List Value} (h:LD w A g n vb Q) (i:Nat) (u:Value) (hw:w.heap.size+2<=g) :
    LD w (A.setCell ⟨g,i,none⟩ u) g n vb (Q.set i u) :=
 ⟨(h.own.stored i u).1,h.q.other _ (by show w.heap.size+1≠g;omega),h.b.other _ (by show w.heap.size≠g;omega),h.ext.setCell (by show w.heap.size<=g;omega) _⟩
theorem LD.lt{w W:World}{g n:Nat}{vb:Value}{Q:List Value}(h:LD w W g n vb Q):g<W.heap.size:=by
 rcases h.own.2 with⟨h',_⟩|⟨g',Lq,cur,h',_,hh,_⟩
 ·simp at h'
 ·simp only[Value.slice.injEq,Option.some.injEq,Addr.mk.injEq,and_true,true_and] at h';rcases Nat.lt_or_ge g' W.heap.size with h''|h''
  ·omega
  ·rw[Array.getElem?_eq_none h''] at hh;simp at hh
theorem LD.at_{w W:World}{g n:Nat}{vb:Value}{Q:List Value}(h:LD w W g n vb Q)(j:Nat)(hj:j<n):∃ u,W.cell? ⟨g,j,none⟩=some u :=
 ⟨_,(h.own.cellAt j ae).trans (List.getElem?_eq_getElem (by have:=h.own.1;omega))⟩
theorem eV.MG{W:World}{B o k c n g i:Nat}(h:eV W (.slice (some ⟨B,o,none⟩) k c) n)(hB:g≠B)(u:Value):eV (W.setCell ⟨g,i,none⟩ u) (.slice (some ⟨B,o,none⟩) k c) n:=by
 obtain⟨l,⟨ad,cap,b,off,hv,h1,h2,h3,h4⟩,c,e⟩:=h;refine⟨l,⟨ad,cap,b,off,hv,h1,h2,fun h0=>⟨(h3 h0).1,by simpa using(h3 h0).2⟩,fun i hi=>?_⟩,c,e⟩;have h5:=(h3 ae).1;have h6:b=B:=by
  simp only[Value.slice.injEq] at hv;rw[← hv.1] at h5;simp at h5;exact h5.1.symm
 refine(World.cell?_setCell_other _ _ _ _ ?_).trans (h4 i hi);intro e';exact hB ((congrArg Addr.block e').trans h6)
theorem ME{qs:List Nat}{j:Nat}(h:qs[j]?.getD 0=0):qs.set j 0=qs:=by
 apply List.ext_getElem?;intro i;rw[List.getElem?_set];split
 ·rename_i e;subst e;split
  ·rename_i hl;rw[List.getElem?_eq_getElem hl] at h ⊢;simpa using h.symm
  ·rename_i hl;rw[List.getElem?_eq_none ae]
 ·rfl
theorem wE{W:World}{k y z b o:Nat}{i:Int}{x:Option Addr}{t:TypeId}(hb:ay W k #[.slice x y z] t)(hc:W.cell? ⟨b,o,none⟩=some (.int .u64 i))(u:Value):(W.setCell ⟨k,0,none⟩ u).cell? ⟨b,o,none⟩=some (.int .u64 i):=by
 have e:(⟨k,0,none⟩:Addr)≠⟨b,o,none⟩:=by
  intro e;rw[← e,hb.cell 0 rfl] at hc;simp at hc
 exact(World.cell?_setCell_other _ _ _ _ e).trans hc
theorem eV.rj{W:World}{v:Value}{n k y z:Nat}{x:Option Addr}{t:TypeId}(h:eV W v n)(hb:ay W k #[.slice x y z] t)(u:Value):eV (W.setCell ⟨k,0,none⟩ u) v n:=by
 refine h.carry (by simp) (fun b o i hi=>?_);have e:(⟨k,0,none⟩:Addr)≠⟨b,o,none⟩:=by
  intro e;rw[← e,hb.cell 0 rfl] at hi;simp at hi
 exact(World.cell?_setCell_other _ _ _ _ e).trans hi
theorem eV.list{w:World}{v:Value}{n:Nat}(h:eV w v n):∃ l,Holds .u64 w v l/\Canon 1000000000 l/\mv 1000000000 l=n:=h
theorem IL{a b:Nat}(h:a<=b):jy a b<=0:=by
 unfold jy;split
 ·omega
 ·rw[if_neg ae];omega
theorem OP{X y A:Nat}(h1:X<y*1000000000)(h2:y<=A):X<=A*1000000000:=Nat.le_trans (Nat.le_of_lt h1) (Nat.mul_le_mul_right _ h2)
theorem D7{y A d:Nat}(h1:y<=A)(h2:d<1000000000):y*d<=A*1000000000:=Nat.mul_le_mul h1 (Nat.le_of_lt h2)
theorem K5(top bt:Nat)(h:top<1000000000):(if (999999999:Int)<IntKind.u64.wrap ((top:Int) / (bt:Int)) then 999999999 else IntKind.u64.wrap ((top:Int) / (bt:Int)))=((min (top / bt) (1000000000-1):Nat):Int):=by
 have e:(top:Int) / (bt:Int)=((top / bt:Nat):Int):=by simp
 have hle:top / bt<=top:=Nat.div_le_self _ _;rw[e];generalize top / bt=q at *;rw[IntWalk.u64_in (q:Int) ae];split <;> omega
theorem GN(top y bt:Nat):(if (999999999:Int)<((top:Int)*1000000000+(y:Int)) / (bt:Int) then 999999999 else((top:Int)*1000000000+(y:Int)) / (bt:Int))=((min ((top*1000000000+y) / bt) (1000000000-1):Nat):Int):=by
 have e:((top:Int)*1000000000+(y:Int)) / (bt:Int)=(((top*1000000000+y) / bt:Nat):Int):=by simp
 rw[e];generalize (top*1000000000+y) / bt=q at *;split <;> omega
set_option maxHeartbeats 16000000 in
theorem Eh (a b:Nat) (va vb:Value) (w:World) (ha:eV w va a) (hb:eV w vb b) (y7:1000000000<=b) (fa:Fd a) (h:b<=a) :
    Calls prog 246 #[va,vb] w (sB w (a / b) (a % b)):=by
 have HA:=ai ha;have HB:=ai hb;have FA:=ai fa;obtain⟨ad,na,ca,rfl⟩:=ha.slice;obtain⟨M,hM,cM,hMv⟩:=hb.list;have QP:2<=M.length:=by
  rcases Nat.lt_or_ge M.length 2 with h2|h2
  ·have h3:=pX cM.lt;have h4:1000000000 ^ M.length<=1000000000 ^ 1:=Nat.pow_le_pow_right af ae;omega
  ·exact h2
 have hMl:M.length<=2000:=(fa.A7 (x:=b) ae).len cM hMv;obtain⟨bb,ob,cb,rfl,h1b,nq,hbb,hCb⟩:=hM.cells ae;obtain⟨m,hm⟩:∃ m,m=M.length:=⟨_,rfl⟩
 rw[← hm] at QP hMl h1b hCb HB ⊢;have nU:w.cell? ⟨bb,ob+(m-1),none⟩=some (.int .u64 ((M[m-1]?.getD 0:Nat):Int)):=by simpa using hCb (m-1) ae
 obtain⟨bt,XO⟩:∃ bt,bt=M[m-1]?.getD 0:=⟨_,rfl⟩
 have qmU:bt<1000000000:=by rw[XO];exact cv af cM.lt _
 have qmV:0<bt:=by rw[XO,hm];exact It cM ae
 rw[← XO] at nU;obtain⟨f,hf⟩:∃ f,f=1000000000 / (bt+1):=⟨_,rfl⟩
 have hf0:0<f:=by rw[hf];exact Nat.div_pos ae ae
 have KX:f<1000000000:=by rw[hf];exact Nat.div_lt_self ae ae
 have HF:=ai hf;have SU:=rE h;have qbQ:¬ jy a b<0:=ae;clear hm XO hf hM cM hMv hCb ha hb;obtain⟨i0,hi,nI,mE,jh⟩:=info_parts ps;have e1:Ext w ((w.alloc (.cells #[.slice (some ⟨bb,ob,none⟩) m cb] 214)).alloc (.cells #[.slice none 0 0] 214)):=((Ext.refl w).alloc _).alloc _;have b3:=(ay.new w #[.slice (some ⟨bb,ob,none⟩) m cb] 214).alloc (.cells #[.slice none 0 0] 214);have b4:=ay.new (w.alloc (.cells #[.slice (some ⟨bb,ob,none⟩) m cb] 214)) #[.slice none 0 0] 214;rw[World.size_alloc] at b4;go_enter func246,ntmps246;go_wp2_with (first
  | (go_at_call 251;refine cto (fW a b _ _ _ (HA.o.ext e1) (HB.o.ext e1)) fun w1 e2=>?_;have To:=b3.ext e2;have Lt:=b4.ext e2;have c3:=To.cell 0 rfl;have c4:=Lt.cell 0 rfl;have f4:=Lt.free 0;have c5:=(e1.trans e2).keeps nU))
 have Up:(1000000000:Int) / ((bt:Int)+1)=(f:Int):=by rw[HF.o];simp
 have Un:((m:Int) == 1)=false:=by simp;omega
 rw[Up,Un];clear Up Un;have qg9:Fit a:=FA.out.A7 ae;have qg8:Fit b:=FA.out.A7 ae;go_cut [0] from 59 to 64 (fun v wx=>∃ uM na' ca' bd' nb' Lo,v = .slice uM na' ca'/\eV wx (.slice uM na' ca') (a*f)/\eV wx (.slice bd' nb' Lo) (b*f)/\Ext w wx/\ay wx w.heap.size #[.slice bd' nb' Lo] 214/\ay wx (w.heap.size+1) #[.slice none 0 0] 214)
 case first =>
  have x1:Ext w w1.drew:=(e1.trans e2).drew;go_region_with (first
   | (go_at_call 273;(with_reducible refine(ur a f (.slice ad na ca) _ (HA.o.ext x1) qg9 KX).mono ?_);rintro e w2 ⟨va',rfl,e3,ma⟩;obtain⟨uM,na',ca',rfl⟩:=ma.slice;have Lu:=To.drew.ext e3;have Hk:=Lu.cell 0 rfl)
   | (go_at_call 273;(with_reducible refine(ur b f (.slice (some ⟨bb,ob,none⟩) m cb) _ (HB.o.ext (x1.trans e3)) qg8 KX).mono ?_);rintro e w3 ⟨vb',rfl,e4,mb⟩;obtain⟨bd',nb',Lo,rfl⟩:=mb.slice;have b3q:=Lu.ext e4;have c3q:=b3q.cell 0 rfl;have f3q:=b3q.free 0))
  all_goals (go_wp2_with fail;go_meet)
  all_goals exact⟨_,_,_,_,_,_,rfl,(ma.ext e4).rj b3q _,mb.rj b3q _,((x1.trans e3).trans e4).setCell (Nat.le_refl _) _,b3q.set 0 _,((Lt.drew.ext e3).ext e4).other _ (by show w.heap.size+1≠w.heap.size;omega)⟩
 case rest =>
  obtain⟨uM,na',ca',bd',nb',Lo,rfl,ma,mb,x3,k3,k4⟩:=hcut;clear To Lt c3 c4 f4 c5 e2 b3 b4 e1 nU;have MA:=ai ma;have MB:=ai mb;obtain⟨L,hL,cL,E9⟩:=ma.list;obtain⟨N,hN,cN,hNv⟩:=mb.list;have hLl:=(FA.out.KH KX).len cL E9;obtain⟨n,hn⟩:∃ n,n=L.length:=⟨_,rfl⟩
  obtain⟨p,hp⟩:∃ p,p=N.length:=⟨_,rfl⟩
  have hbf:0<b*f:=Nat.mul_pos ae hf0;have hp0:0<N.length:=by
   rcases Nat.eq_zero_or_pos N.length with h0|h0
   ·rw[List.length_eq_zero_iff.1 h0] at hNv;simp[mv] at hNv;omega
   ·exact h0
  obtain⟨gb,go,cb2,hNe,h1N,hcN,hbN,hCN⟩:=hN.cells hp0;cases hNe;obtain⟨ad2,ca2,ba,oa,hLe,OG,hcL,wU,wV⟩:=hL;cases hLe;rw[← hn] at hLl OG wU wV MA ⊢;rw[← hp] at hp0 h1N hCN MB k3;obtain⟨Lr,Oy⟩:∃ Lr,Lr=N[p-1]?.getD 0:=⟨_,rfl⟩
  have qjS:Lr<1000000000:=by rw[Oy];exact cv af cN.lt _
  have Us:0<Lr:=by rw[Oy,hp];exact It cN ae
  have hct:wc.cell? ⟨gb,go+(p-1),none⟩=some (.int .u64 (Lr:Int)):=by rw[Oy];simpa using hCN (p-1) ae
  have hpl:p<=2000:=by rw[hp];exact((FA.out.KH KX).mono (Nat.mul_le_mul_right f h)).len cN hNv
  have Qa:=ai E9;have HNV:=ai hNv;have HN:=ai hn;have HP:=ai hp;have HB2:=ai Oy;have H1:=ai wU;have H2:=ai wV;have H3:=ai hCN;have CL:=ai cL;have CN:=ai cN;have K4:=ai k4;clear E9 hNv hn hp Oy wU wV hCN cL cN hN ma mb;have c3:=k3.cell 0 rfl;have c4:=k4.cell 0 rfl;have f4:=k4.free 0;go_wp2_with (first
   | (at_make;refine wpList_make_full _ rfl _ _ 214 rfl wc.heap.size 245 i0 (.int .u64 0) 1 underlying214 hi nI mE _ _ _ _ n rfl rfl ae ae (by rw[jh];omega) (by unfold maxLen;omega) (Nat.le_refl _) ?_;intro w2 iE ef;have k3':=k3.grown ef (by simp);have Xk:=k4.grown ef (by simp);have c3:=k3'.cell 0 rfl;have c4:=Xk.cell 0 rfl;have f4:=Xk.free 0;have s2:=ef.size;have ct':=wE Xk (((Ext.refl wc).grown ef (fun k h=>by cases h)).keeps hct) (.slice (some ⟨wc.heap.size,0,none⟩) n n);have pD:=(k3'.other (a:=⟨w.heap.size+1,0,none⟩) (.slice (some ⟨wc.heap.size,0,none⟩) n n) (by show w.heap.size≠w.heap.size+1;omega)).cell 0 rfl))
  obtain⟨W0,XS⟩:∃ W0,w2.setCell ⟨w.heap.size+1,0,none⟩ (.slice (some ⟨wc.heap.size,0,none⟩) n n)=W0:=⟨_,rfl⟩
  have sz0:w.heap.size+2<=wc.heap.size:=by have:=K4.out.lt;omega
  have e02:Ext wc w2:=(Ext.refl wc).grown ef (fun k h=>by cases h);have kNW:∀ W,Below wc.heap.size W0 W->eV W (.slice (some ⟨gb,go,none⟩) p Lo) (b*f):=by
   intro W hW;refine⟨N,⟨_,Lo,gb,go,by rw[HP.o],by rw[← HP.o];omega,hcN,fun _=>⟨rfl,Nat.lt_of_lt_of_le hbN (Nat.le_trans (Nat.le_trans e02.size (by rw[← XS];simp)) hW.size)⟩,fun i hi=>?_⟩,CN.out,HNV.o⟩;refine(hW.cell (p:=⟨gb,go+i,none⟩) hbN).trans ?_;rw[← XS];exact wE Xk (e02.keeps (H3.o i (by rw[HP.o];exact hi))) _
  have kLW:∀ W,Below wc.heap.size W0 W->∀ j,j<n->W.cell? ⟨ba,oa+j,none⟩=some (.int .u64 ((L[j]?.getD 0:Nat):Int)):=by
   intro W hW j hj;refine(hW.cell (p:=⟨ba,oa+j,none⟩) (H1.o ae).2).trans ?_;rw[← XS];have:=wE Xk (e02.keeps (H2.o j hj)) (.slice (some ⟨wc.heap.size,0,none⟩) n n);simpa using this
  have jK:LD w W0 wc.heap.size n (.slice (some ⟨gb,go,none⟩) p Lo) ((List.replicate n 0).map fun(x:Nat)=>Value.int .u64 x):=by
   rw[pq] at iE;rw[← XS];exact⟨ownsRow_setCell_other iE (by simp[Value.ownBlock];omega) _,Xk.set 0 _,k3'.other (a:=⟨w.heap.size+1,0,none⟩) _ (by show w.heap.size≠w.heap.size+1;omega),(x3.trans e02).setCell (by show w.heap.size<=w.heap.size+1;omega) _⟩
  have sW0:wc.heap.size<=W0.heap.size:=by rw[← XS];have:=e02.size;simpa using this
  have KN:=ai kNW;have KL:=ai kLW;have kp:=ai jK;have BK:=ai hbf;rw[XS];clear XS kNW kLW jK k3 k4 k3' Xk c3 c4 f4 pD ct' hct iE ef;go_loopw [5,11] (fun r i W=>∃ (k rr:Nat) (z:Int) (qs:List Nat),k<=n/\z=(k:Int)-1/\i = .int .i64 z/\eV W r rr/\LD w W wc.heap.size n (.slice (some ⟨gb,go,none⟩) p Lo) (qs.map fun(x:Nat)=>Value.int .u64 x)/\Below wc.heap.size W0 W/\iz 1000000000 (b*f) L qs k rr)
   (fun _ i _=>((intOf i)+1).toNat)
  case atStart=>exact⟨n,0,_,List.replicate n 0,Nat.le_refl _,rfl,rfl,eV.zero _,kp.o,Below.refl _ _,by rw[HN.o];exact iz.start af BK.o⟩
  case round =>
   obtain⟨k,rr,z,qs,hk,hz,rfl,hr,hld,XP,hinv⟩:=hrel;by_cases E6:0<k
   ·obtain⟨j,rfl⟩:∃ j,k=j+1:=⟨k-1,ae⟩
    obtain rfl:z=(j:Int):=ae;clear hz;obtain⟨ad3,nr,ca3,rfl⟩:=hr.slice;obtain⟨R0,hR0,cR0,SY⟩:=hr.list;have qm2:R0.length<=2000:=((FA.out.KH KX).mono (Nat.le_trans (Nat.le_of_lt hinv.rem) (Nat.mul_le_mul_right f h))).len cR0 SY;have hle:wc.heap.size<=wr.heap.size:=Nat.le_trans sW0 XP.size;have Xw:=hinv.rem;obtain⟨x,hx⟩:∃ x,x=L[j]?.getD 0:=⟨_,rfl⟩
    have pQ:x<1000000000:=by rw[hx];exact cv af CL.out.lt j
    have qE:wr.cell? ⟨ba,oa+j,none⟩=some (.int .u64 (x:Int)):=by rw[hx];exact KL.out wr XP j ae
    have Om:=dG 214 245 underlying214 lj (cap:=ca') (fun h=>(H1.o h).1) j ae;have hbx:bK 1000000000 (x :: R0):=by
     intro y hy;rcases List.mem_cons.1 hy with h|h
     ·omega
     ·exact cR0.lt y h
    have c3:=hld.b.cell 0 rfl;have HBX:=ai hbx;have HX:=ai hx;have qim:=ai hinv;have VA:=ai hld;have HRV:=ai SY;obtain⟨X,hX⟩:∃ X,X=rr*1000000000+x:=⟨_,rfl⟩
    have mvx:mv 1000000000 (x :: R0)=X:=by rw[hX,← SY];simp only[mv];omega
    have hXB:X<b*f*1000000000:=by rw[hX];have:=Nat.mul_le_mul_right 1000000000 hinv.rem;omega
    have hs:=hinv.step (by rw[← HN.o];omega) CL.out.lt BK.o;rw[← hx,← hX] at hs;have MVX:=ai mvx;have Y1:=ai hXB;have HS:=ai hs;clear hbx hx hinv hld mvx cR0 hr SY hX hXB hs;by_cases aP:X<b*f
    ·have nU:jy (X) (b*f)<0:=by rw[pn aP];decide
     go_wp2_with (first
      | (at_builtin;refine nZ wr rfl (.tmp 85) (.tmp 86) 214 rfl 245 i0 underlying214 hi nI mE jh x R0 (.slice ad3 nr ca3) rfl rfl hR0 ae ?_;intro ad4 ca4 w4 hh KY;have pD:=(VA.o.grown KY).b.cell 0 rfl;have hx4:=XP.trans (Below.mono KY hle);have SP:=Nat.le_trans hle KY.size)
      | (go_at_call 238;refine(n6 (x :: R0) _ _ hh HBX.o).mono ?_;rintro e w5 ⟨v5,rfl,rfl,uH⟩;rw[MVX.out] at uH;obtain⟨ad5,n5,ca5,rfl⟩:=uH.slice)
      | (go_at_call 251;refine cto (fW (X) (b*f) _ _ _ uH (KN.out _ hx4)) fun w6 e6=>?_))
     go_roundw
     case rel =>
      refine⟨j,X,(j:Int)-1,qs,ae,rfl,rfl,uH.ext e6,VA.o.grown (KY.trans e6),hx4.trans (Below.mono e6 SP),?_⟩;have hs:=HS.o;rw[Nat.div_eq_of_lt aP,Nat.mod_eq_of_lt aP,ME (qim.o.zero j ae)] at hs;exact hs
     case measure=>simp[intOf]
    ·have nU:=rE (show b*f<=X by omega);have qmR:¬ jy (X) (b*f)<0:=Int.not_lt.2 nU;go_wp2_with (first
      | (at_builtin;refine nZ wr rfl (.tmp 85) (.tmp 86) 214 rfl 245 i0 underlying214 hi nI mE jh x R0 (.slice ad3 nr ca3) rfl rfl hR0 ae ?_;intro ad4 ca4 w4 hh KY;have pD:=(VA.o.grown KY).b.cell 0 rfl;have hx4:=XP.trans (Below.mono KY hle);have SP:=Nat.le_trans hle KY.size)
      | (go_at_call 238;refine(n6 (x :: R0) _ _ hh HBX.o).mono ?_;rintro e w5 ⟨v5,rfl,rfl,uH⟩;rw[MVX.out] at uH;obtain⟨ad5,n5,ca5,rfl⟩:=uH.slice))
     refine(fW (X) (b*f) _ _ _ uH (KN.out _ hx4)).mono ?_;rintro e w6 ⟨rfl,e6⟩;have XH:=VA.o.grown (KY.trans e6);have hx6:=hx4.trans (Below.mono e6 SP);have SO:=Nat.le_trans SP e6.size;have AU:=uH.ext e6;obtain⟨R,hR,cR,hRv⟩:=AU.list;have E8:=K0 af cR CN.out (by rw[hRv,HNV.o];omega) (by rw[hRv,HNV.o];exact Y1.o);obtain⟨b5,o5,ca5,hve,h1R,hcR,hbR,hCR⟩:=hR.cells (by rw[← HP.o] at E8;omega);cases hve;have KR:=AU;have HCR:=ai hCR;have HR:=ai hR;have CR:=ai cR;have HRV:=ai hRv;clear hCR hR cR hRv hR0 hh;rw[← HP.o] at E8;have Hk:=XH.b.cell 0 rfl;rcases E8 with E8|E8
     ·rw[E8] at h1R KR ⊢;obtain⟨top,wI⟩:∃ top,top=R[p-1]?.getD 0:=⟨_,rfl⟩
      have Yt:w6.cell? ⟨b5,o5+(p-1),none⟩=some (.int .u64 (top:Int)):=by rw[wI];simpa using HCR.o (p-1) ae
      have Z7:top<1000000000:=by rw[wI];exact cv af CR.out.lt _
      have tR:=ai E8;have HT:=ai wI;have Zl:=ai KR;clear E8 wI AU KR uH;go_upto_region 25 with fail
      rw[K5 top Lr Z7];have HG:=ai (show X / (b*f)<=min (top / Lr) (1000000000-1) from DK (p:=p-1) af Us (by
       rw[← HRV.o,HT.o,← tR.o];exact Rp CR.out.lt (by rw[tR.o];omega)) (by
       have:=Ml (B:=1000000000) (M:=N) (by rw[← HP.o];exact hp0);rw[← HP.o,← HB2.o,HNV.o] at this;exact this) Y1.o)
      have Ou:min (top / Lr) (1000000000-1)<1000000000:=Nat.lt_of_le_of_lt (Nat.min_le_right _ _) af;generalize min (top / Lr) (1000000000-1)=d0 at *;clear Yt HT Z7;have hmf:Fit (b*f):=(FA.out.KH KX).mono (Nat.mul_le_mul_right f h);go_wp2_with (go_at_call 273;refine(ur (b*f) d0 _ _ (KN.out _ hx6) hmf Ou).mono ?_;rintro e w7 ⟨v7,rfl,e7,hm7⟩;obtain⟨ad7,n7,ca7,rfl⟩:=hm7.slice);go_loopw [12,13] (fun dv t W=>∃ dn:Nat,dv = .int .u64 (dn:Int)/\X / (b*f)<=dn/\dn<1000000000/\eV W t (b*f*dn)/\Ext w6 W) (fun dv _ _=>(intOf dv).toNat)
      case atStart=>exact⟨d0,rfl,HG.o,Ou,hm7,e7⟩
      case round =>
       obtain⟨dn,rfl,S0,hdl,AT,e8⟩:=hrel;obtain⟨ad8,n8,ca8,rfl⟩:=AT.slice;have Gw:=XH.grown e8;have hx8:=hx6.trans (Below.mono e8 SO);have Gu:=Nat.le_trans SO e8.size;have c38:=Gw.b.cell 0 rfl;by_cases hgt:X<b*f*dn
       ·have SV:0<jy (b*f*dn) X:=by rw[ux hgt];decide
        have XL:0<dn:=by
         rcases Nat.eq_zero_or_pos dn with h0|h0
         ·rw[h0,Nat.mul_zero] at hgt;exact absurd hgt (Nat.not_lt_zero _)
         ·exact h0
        have GA:Fit (b*f*dn):=FA.out.A7 (D7 (Nat.le_trans (Nat.mul_le_mul_right f h) (Nat.mul_le_mul_left a (Nat.le_of_lt KX))) hdl);have AV:b*f<=b*f*dn:=Nat.le_mul_of_pos_right _ XL;have HDN:=ai S0;have HGT:=ai hgt;clear S0 hgt;go_wp2_with (first
         | (go_at_call 251;refine cto (fW (b*f*dn) X _ _ _ AT (Zl.o.ext e8)) fun w9 e9=>?_;have c39:=(Gw.grown e9).b.cell 0 rfl)
         | (go_at_call 252;refine(mW (b*f*dn) (b*f) _ _ _ (AT.ext e9) (KN.out _ (hx8.trans (Below.mono e9 Gu))) GA AV).mono ?_;rintro e JZ ⟨v10,rfl,Bf,Oh⟩;obtain⟨qhK,n10,qhq,rfl⟩:=Oh.slice))
        go_roundw
        case rel =>
         refine⟨dn-1,by simp;omega,?_,ae,?_,(e8.trans e9).trans Bf⟩
         ·have:=Nat.div_lt_of_lt_mul HGT.o;omega
         ·rw[Nat.mul_sub_one];exact Oh
        case measure=>simp[intOf];omega
       ·have SV:=IL (show b*f*dn<=X by omega);have Ow:¬ 0<jy (b*f*dn) X:=Int.not_lt.2 SV;obtain rfl:dn=X / (b*f):=Nat.le_antisymm ((Nat.le_div_iff_mul_le BK.o).2 (by rw[Nat.mul_comm];omega)) S0;have hXf:Fit X:=FA.out.A7 (OP Y1.o (Nat.le_trans (Nat.mul_le_mul_right f h) (Nat.mul_le_mul_left a (Nat.le_of_lt KX))));have jo:X / (b*f)*1<=X:=by rw[Nat.mul_one];exact Nat.div_le_self _ _
        have AV:b*f*(X / (b*f))<=X:=Nat.mul_div_le _ _;have O1:X-b*f*(X / (b*f))=X % (b*f):=by have:=Nat.div_add_mod X (b*f);omega
        have EM:=ai O1;obtain⟨dq,XK⟩:∃ dq,dq=X / (b*f):=⟨_,rfl⟩
        have HDQ:=ai XK;rw[← XK] at hdl AT AV EM SV Ow ⊢;clear XK jo hgt S0 O1 HG;go_wp2_with (first
         | (go_at_call 251;refine cto (fW (b*f*dq) X _ _ _ AT (Zl.o.ext e8)) fun w9 e9=>?_))
        have Gv:=(Gw.grown e9)
        have hx9:=hx8.trans (Below.mono e9 Gu);have XF:=Nat.le_trans Gu e9.size;have b49:=Gv.q;have c49:=b49.cell 0 rfl;have hm9:=AT.ext e9;have XD:=Zl.o.ext (e8.trans e9);have hg9:=Gv.lt;have d9:Ext w9 w9.drew:=(Ext.refl w9).drew;clear pD Hk c38 c3 SV Ow
        first
         | (go_region_with (first
             | (go_at_call 252;(with_reducible refine(AJ X (b*f*dq) _ _ _ (XD.ext d9) (hm9.ext d9) hXf AV).mono ?_);rintro e QM ⟨k11,c11,rfl,tf,XE⟩;have rR:=Gv.grown (d9.trans tf);have qhy:=rR.q.cell 0 rfl;obtain⟨u11,qgf⟩:=rR.at_ j ae;have qg3:=rR.own.frozenAt j)))
         | fail "region 29"
        all_goals go_wp2_with fail
        all_goals go_roundw
        all_goals first
         | (show(intOf (Value.int .i64 ((j:Int)-1))+1).toNat<(intOf (Value.int .i64 (j:Int))+1).toNat;simp[intOf];done)
         | skip
        all_goals
         refine⟨j,X % (b*f),(j:Int)-1,qs.set j dq,ae,rfl,rfl,?_,?_,?_,?_⟩
         ·have:=XE.MG (g:=wc.heap.size) (i:=j) (by show wc.heap.size≠w9.heap.size;omega) (.int .u64 (dq:Int));rw[EM.out] at this
          first|exact this|exact this.ext ((Ext.refl _).drew)
         ·have:=rR.store j (.int .u64 (dq:Int)) sz0;rw[← List.map_set] at this
          first|exact this|exact this.grown ((Ext.refl _).drew)
         ·have:=(hx9.trans (Below.mono (d9.trans tf) XF)).setCell (p:=⟨wc.heap.size,j,none⟩) (Nat.le_refl _) (.int .u64 (dq:Int))
          first|exact this|exact this.drew
         ·rw[HDQ.o];exact HS.o
     ·rw[E8] at h1R KR ⊢;obtain⟨top,wI⟩:∃ top,top=R[p]?.getD 0:=⟨_,rfl⟩
      obtain⟨y,hy⟩:∃ y,y=R[p-1]?.getD 0:=⟨_,rfl⟩
      have Yt:w6.cell? ⟨b5,o5+p,none⟩=some (.int .u64 (top:Int)):=by rw[wI];simpa using HCR.o p ae
      have qcp:w6.cell? ⟨b5,o5+(p-1),none⟩=some (.int .u64 (y:Int)):=by rw[hy];simpa using HCR.o (p-1) ae
      have Z7:top<1000000000:=by rw[wI];exact cv af CR.out.lt _
      have hyl:y<1000000000:=by rw[hy];exact cv af CR.out.lt _
      have tR:=ai E8;have HT:=ai wI;have HY:=ai hy;have Zl:=ai KR;clear E8 wI hy AU KR uH;go_upto_region 25 with fail
      rw[GN top y Lr];have HG:=ai (show X / (b*f)<=min ((top*1000000000+y) / Lr) (1000000000-1) from DK (p:=p-1) af Us (by
       rw[← HRV.o,HT.o,HY.o];have:=Ro (B:=1000000000) (R:=R) CR.out.lt (by rw[tR.o];omega);rw[tR.o,show p+1-2=p-1 by omega,Nat.add_sub_cancel] at this;exact this) (by
       have:=Ml (B:=1000000000) (M:=N) (by rw[← HP.o];exact hp0);rw[← HP.o,← HB2.o,HNV.o] at this;exact this) Y1.o)
      have Ou:min ((top*1000000000+y) / Lr) (1000000000-1)<1000000000:=Nat.lt_of_le_of_lt (Nat.min_le_right _ _) af;generalize min ((top*1000000000+y) / Lr) (1000000000-1)=d0 at *;clear Yt qcp HT HY Z7 hyl;have hmf:Fit (b*f):=(FA.out.KH KX).mono (Nat.mul_le_mul_right f h);go_wp2_with (go_at_call 273;refine(ur (b*f) d0 _ _ (KN.out _ hx6) hmf Ou).mono ?_;rintro e w7 ⟨v7,rfl,e7,hm7⟩;obtain⟨ad7,n7,ca7,rfl⟩:=hm7.slice);go_loopw [12,13] (fun dv t W=>∃ dn:Nat,dv = .int .u64 (dn:Int)/\X / (b*f)<=dn/\dn<1000000000/\eV W t (b*f*dn)/\Ext w6 W) (fun dv _ _=>(intOf dv).toNat)
      case atStart=>exact⟨d0,rfl,HG.o,Ou,hm7,e7⟩
      case round =>
       obtain⟨dn,rfl,S0,hdl,AT,e8⟩:=hrel;obtain⟨ad8,n8,ca8,rfl⟩:=AT.slice;have Gw:=XH.grown e8;have hx8:=hx6.trans (Below.mono e8 SO);have Gu:=Nat.le_trans SO e8.size;have c38:=Gw.b.cell 0 rfl;by_cases hgt:X<b*f*dn
       ·have SV:0<jy (b*f*dn) X:=by rw[ux hgt];decide
        have XL:0<dn:=by
         rcases Nat.eq_zero_or_pos dn with h0|h0
         ·rw[h0,Nat.mul_zero] at hgt;exact absurd hgt (Nat.not_lt_zero _)
         ·exact h0
        have GA:Fit (b*f*dn):=FA.out.A7 (D7 (Nat.le_trans (Nat.mul_le_mul_right f h) (Nat.mul_le_mul_left a (Nat.le_of_lt KX))) hdl);have AV:b*f<=b*f*dn:=Nat.le_mul_of_pos_right _ XL;have HDN:=ai S0;have HGT:=ai hgt;clear S0 hgt;go_wp2_with (first
         | (go_at_call 251;refine cto (fW (b*f*dn) X _ _ _ AT (Zl.o.ext e8)) fun w9 e9=>?_;have c39:=(Gw.grown e9).b.cell 0 rfl)
         | (go_at_call 252;refine(mW (b*f*dn) (b*f) _ _ _ (AT.ext e9) (KN.out _ (hx8.trans (Below.mono e9 Gu))) GA AV).mono ?_;rintro e JZ ⟨v10,rfl,Bf,Oh⟩;obtain⟨qhK,n10,qhq,rfl⟩:=Oh.slice))
        go_roundw
        case rel =>
         refine⟨dn-1,by simp;omega,?_,ae,?_,(e8.trans e9).trans Bf⟩
         ·have:=Nat.div_lt_of_lt_mul HGT.o;omega
         ·rw[Nat.mul_sub_one];exact Oh
        case measure=>simp[intOf];omega
       ·have SV:=IL (show b*f*dn<=X by omega);have Ow:¬ 0<jy (b*f*dn) X:=Int.not_lt.2 SV;obtain rfl:dn=X / (b*f):=Nat.le_antisymm ((Nat.le_div_iff_mul_le BK.o).2 (by rw[Nat.mul_comm];omega)) S0;have hXf:Fit X:=FA.out.A7 (OP Y1.o (Nat.le_trans (Nat.mul_le_mul_right f h) (Nat.mul_le_mul_left a (Nat.le_of_lt KX))));have jo:X / (b*f)*1<=X:=by rw[Nat.mul_one];exact Nat.div_le_self _ _
        have AV:b*f*(X / (b*f))<=X:=Nat.mul_div_le _ _;have O1:X-b*f*(X / (b*f))=X % (b*f):=by have:=Nat.div_add_mod X (b*f);omega
        have EM:=ai O1;obtain⟨dq,XK⟩:∃ dq,dq=X / (b*f):=⟨_,rfl⟩
        have HDQ:=ai XK;rw[← XK] at hdl AT AV EM SV Ow ⊢;clear XK jo hgt S0 O1 HG;go_wp2_with (first
         | (go_at_call 251;refine cto (fW (b*f*dq) X _ _ _ AT (Zl.o.ext e8)) fun w9 e9=>?_))
        have Gv:=(Gw.grown e9)
        have hx9:=hx8.trans (Below.mono e9 Gu);have XF:=Nat.le_trans Gu e9.size;have b49:=Gv.q;have c49:=b49.cell 0 rfl;have hm9:=AT.ext e9;have XD:=Zl.o.ext (e8.trans e9);have hg9:=Gv.lt;have d9:Ext w9 w9.drew:=(Ext.refl w9).drew;clear pD Hk c38 c3 SV Ow
        first
         | (go_region_with (first
             | (go_at_call 252;(with_reducible refine(AJ X (b*f*dq) _ _ _ (XD.ext d9) (hm9.ext d9) hXf AV).mono ?_);rintro e QM ⟨k11,c11,rfl,tf,XE⟩;have rR:=Gv.grown (d9.trans tf);have qhy:=rR.q.cell 0 rfl;obtain⟨u11,qgf⟩:=rR.at_ j ae;have qg3:=rR.own.frozenAt j)))
         | fail "region 29"
        all_goals go_wp2_with fail
        all_goals go_roundw
        all_goals first
         | (show(intOf (Value.int .i64 ((j:Int)-1))+1).toNat<(intOf (Value.int .i64 (j:Int))+1).toNat;simp[intOf];done)
         | skip
        all_goals
         refine⟨j,X % (b*f),(j:Int)-1,qs.set j dq,ae,rfl,rfl,?_,?_,?_,?_⟩
         ·have:=XE.MG (g:=wc.heap.size) (i:=j) (by show wc.heap.size≠w9.heap.size;omega) (.int .u64 (dq:Int));rw[EM.out] at this
          first|exact this|exact this.ext ((Ext.refl _).drew)
         ·have:=rR.store j (.int .u64 (dq:Int)) sz0;rw[← List.map_set] at this
          first|exact this|exact this.grown ((Ext.refl _).drew)
         ·have:=(hx9.trans (Below.mono (d9.trans tf) XF)).setCell (p:=⟨wc.heap.size,j,none⟩) (Nat.le_refl _) (.int .u64 (dq:Int))
          first|exact this|exact this.drew
         ·rw[HDQ.o];exact HS.o
   ·obtain rfl:k=0:=ae;obtain rfl:z=-1:=ae;obtain⟨ad3,nr,ca3,rfl⟩:=hr.slice;obtain⟨eq,er⟩:=hinv.done;rw[Qa.o] at eq er;have e1:mv 1000000000 qs=a / b:=by rw[eq,Nat.mul_div_mul_right _ _ hf0]
    have e2:rr / f=a % b:=by rw[er,Nat.mul_mod_mul_right,Nat.mul_div_cancel _ hf0]
    have qbq:Fit rr:=(FA.out.KH KX).mono (by rw[er];exact Nat.mod_le _ _);have Xx:=hinv.lt;have E1:=ai e1;have E2:=ai e2;have VA:=ai hld;clear e1 e2 eq er hld hinv hz hk E6;have hfm:eV (wr.alloc (.cells #[.int .u64 (f:Int)] 245)) (.slice (some ⟨wr.heap.size,0,none⟩) 1 1) f:=⟨[f],yT,⟨by intro y hy;simp at hy;omega,by simp;omega⟩,gP _ _⟩
    have ea:Ext wr (wr.alloc (.cells #[.int .u64 (f:Int)] 245)):=(Ext.refl wr).alloc _;go_wp2_with (first
     | (go_at_call 246;refine(xh rr f _ _ _ (hr.ext ea) hfm hf0 KX qbq).mono ?_;rintro e w4 ⟨vq4,vr4,rfl,e4,mq4,mr4⟩;obtain⟨qa4,qn4,qc4,rfl⟩:=mq4.slice;obtain⟨ra4,rn4,rc4,rfl⟩:=mr4.slice;have Gx:=VA.o.grown (ea.trans e4);have c44:=Gx.q.cell 0 rfl;have f44:=Gx.q.free 0;have hh4:=Holds.fm Gx.own)
     | (go_at_call 238;refine(n6 qs _ _ hh4 Xx).mono ?_;rintro e w5 ⟨v5,rfl,rfl,uH⟩;obtain⟨ad5,n5,ca5,rfl⟩:=uH.slice))
    rw[E2.out] at mq4;rw[E1.out] at uH;have c5:=(Gx.q.set 0 (.slice ad5 n5 ca5)).cell 0 rfl;refine bodyPost_ret (v:=.tuple #[.slice ad5 n5 ca5,.slice qa4 qn4 qc4]) (by simp[results,results246,go_sem,c5]) rfl ⟨_,_,rfl,Gx.ext.setCell (by show w.heap.size<=w.heap.size+1;omega) _,uH.rj Gx.q _,mq4.rj Gx.q _⟩
theorem kJ (a b:Nat) (va vb:Value) (w:World) (ha:eV w va a) (hb:eV w vb b) (fp:0<b) (fa:Fd a) :
    Calls prog 246 #[va,vb] w (sB w (a / b) (a % b)):=by
 by_cases h1:a<b
 ·have:=zq a b va vb w ha hb h1;rwa[Nat.div_eq_of_lt h1,Nat.mod_eq_of_lt h1]
 ·by_cases h2:b<1000000000
  ·exact xh a b va vb w ha hb fp h2 (fa.A7 ae)
  ·exact Eh a b va vb w ha hb ae fa ae
