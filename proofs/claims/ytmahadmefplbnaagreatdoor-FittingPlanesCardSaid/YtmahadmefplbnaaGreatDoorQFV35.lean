/- Part 35. -/
import Derived.Test.YtmahadmefplbnaaGreatDoorQFVB
import Derived.Test.YtmahadmefplbnaaGreatDoorQFV34
set_option maxRecDepth 100000
set_option maxHeartbeats 2000000
open Go.Proofs.Tryz
set_option linter.unusedSimpArgs false
set_option linter.unusedVariables false
namespace Go.Proofs.YtmahadmefplbnaaGreatDoor
open Go Go.RowKit
theorem rZ{q:Rat}:iw q=if q.num<0 then -q else q:=by
 unfold iw;by_cases h:q.num<0
 ·rw[if_pos h,if_pos ((Rat.lt_iff q 0).2 (by simpa using h))]
 ·rw[if_neg h,if_neg (fun e=>h (by have:=(Rat.lt_iff q 0).1 e;simpa using this))]
theorem zO(q:Rat){k:Nat}(w:World)(hq:QB k q)(hk:k<=9000):Calls prog 43 #[.string (qs q)] w (aD w (.string (qs (iw q)))):=by
 have hp:=qi q;have hl:=hq.len hk;have hp':(0:Int)<(qs q).size:=ae;have hp1:1<=(qs q).size:=hp;clear hq;by_cases hn:q.num<0
 ·have h2:=(gi q hp).2 hn;have H:Hid ((qs q).extract 1 (qs q).size=qs (iw q)):=ai (by rw[rZ,if_pos hn];exact wi hn);clear hn;go_enter func43,ntmps43;go_wp2;go_ret;exact⟨bV H.o,Ext.refl _⟩
 ·have h2:¬ ((qs q)[0].toNat:Int)=45:=fun e=>hn ((gi q hp).1 e)
  have H:Hid (qs (iw q)=qs q):=ai (by rw[rZ,if_neg hn]);clear hn;go_enter func43,ntmps43;go_wp2;go_ret;exact⟨bV H.o.symm,Ext.refl _⟩
theorem QB.abs{q:Rat}{k:Nat}(h:QB k q):QB k (iw q):=by unfold iw;split;exact h.neg;exact h
def DG(n:Nat)(p:Nat->V3)(x:Nat->Rat)(w:World)(e:Ending)(w':World):Prop:=∃ v,e = .returned v/\Ext w w'/\bB w w' 34 1 v n (fun i => .string (qs (de p x i)))
theorem qN{p:Nat->V3}{x:Nat->Rat}{i:Nat}(hp:VB 1 (p i))(hx:∀ j,j<3->QB 24 (x j)):QB 90 (de p x i) :=
 (hp.z.sub ((((hx 0 af).mul hp.x).add ((hx 1 af).mul hp.y)).add (hx 2 af))).mono af
theorem qF{f:Nat->Rat}:∀ {n k:Nat},(∀ i,i<n->QB 90 (f i))->k<=n->QB 90 (gY f k)
 | n,0,_,_=>(QB.int (n:=0) (k:=1) ⟨af⟩ af).mono af
 | n,k+1,h,hk=>(QB.max (qF (n:=n) h ae) (h k ae).abs).mono af
theorem AR(vo:Option Addr)(n cap:Nat)(p:Nat->V3)(w:World)(g:Gd w)(hl:k9 w vo n p)(hq:∀ i,i<n->VB 1 (p i))(hn:n<=60)(x:Nat->Rat)(mo:ByteArray)(da:Option Addr)(dm dc:Nat)(hx:∀ j,j<3->QB 24 (x j)):Calls prog 108 #[.slice vo n cap,.agg #[.string (qs (x 0)),.string (qs (x 1)),.string (qs (x 2)),.string mo,.slice da dm dc]] w (DG n p x w):=by
 have HG:=ai g;have HL:=ai hl;have HQ:=ai hq;have HX:=ai hx;clear g hl hq hx;go_enter func108,ntmps108;go_wp2_with fail;refine aw (fun W=>Ext w W/\aq W (w.heap.size) (#[.string (qs (x 0)),.string (qs (x 1)),.string (qs (x 2)),.string mo,.slice da dm dc]) 60) ⟨((Ext.refl w).alloc _),(aq.nw (#[.string (qs (x 0)),.string (qs (x 1)),.string (qs (x 2)),.string mo,.slice da dm dc]) 60)⟩ ?_;rintro w1 ⟨e1,bB0_1⟩;have HX1:=ai e1;have HB0_1:=ai bB0_1;have HGEB0:Hid (w.heap.size<=w.heap.size):=ai (Nat.le_refl _);clear e1 bB0_1;have HOL_1:Hid (bB w w1 34 1 (.slice none 0 0) 0 ((fun i => .string (qs (de p x i))))):=ai (bB.nil _ _ _ _ _);go_wp2_with fail;go_loopw [11,5] (fun x0_ x1_ wx=>∃ k:Nat,∃ la:Option Addr,∃ ln:Nat,∃ lc:Nat,x0_ = .int .i64 k/\x1_ = .slice la ln lc/\k<=n/\Hid (Ext w wx/\aq wx (w.heap.size) (#[.string (qs (x 0)),.string (qs (x 1)),.string (qs (x 2)),.string mo,.slice da dm dc]) 60/\bB w wx 34 1 (.slice la ln lc) k ((fun i => .string (qs (de p x i)))))) (fun x0_ _ _=>n-(intOf x0_).toNat)
 case atStart=>exact⟨0,none,0,0,rfl,rfl,Nat.zero_le _,ai ⟨HX1.o,HB0_1.o,HOL_1.o⟩⟩
 case round =>
  rename World=>w2
  obtain⟨k,la,ln,lc,rfl,rfl,hkk,HH⟩:=hrel;have HX2:=ai HH.o.1;have HB0_2:=ai HH.o.2.1;have HOL_2:=ai HH.o.2.2;clear HH;by_cases hlt:k<n
  ·have hlt2:(k:Int)<((n:Nat):Int):=ae;obtain⟨la_,o_,rfl,zx_,zy_,zz_⟩:=HL.o k hlt;have HCx:Hid (w.cell? _=some (.string (qs (p k).x))):=ai zx_;have HCy:Hid (w.cell? _=some (.string (qs (p k).y))):=ai zy_;have HCz:Hid (w.cell? _=some (.string (qs (p k).z))):=ai zz_;clear zx_ zy_ zz_;have cl_o____k___3:=ax HX2.o (HCx.o);have cl_o____k___3___1:=ax HX2.o (HCy.o);have cl_o____k___3___2:=ax HX2.o (HCz.o);go_wp2_with fail;refine aw (fun W=>Ext w W/\aq W (w.heap.size) (#[.string (qs (x 0)),.string (qs (x 1)),.string (qs (x 2)),.string mo,.slice da dm dc]) 60/\bB w W 34 1 (.slice la ln lc) k ((fun i => .string (qs (de p x i))))/\aq W (w2.heap.size) (#[.string (qs ((p k).x)),.string (qs ((p k).y)),.string (qs ((p k).z))]) 67) ⟨(HX2.o.alloc _),(HB0_2.o.alloc _),(HOL_2.o.alloc _),(aq.nw (#[.string (qs ((p k).x)),.string (qs ((p k).y)),.string (qs ((p k).z))]) 67)⟩ ?_;rintro w3 ⟨e3,bB0_3,bOL_3,bB1_3⟩;have HX3:=ai e3;have HB0_3:=ai bB0_3;have HOL_3:=ai bOL_3;have HB1_3:=ai bB1_3;have HGEB1:Hid (w.heap.size<=w2.heap.size):=ai (HX2.o.size);clear e3 bB0_3 bOL_3 bB1_3 cl_o____k___3 cl_o____k___3___1 cl_o____k___3___2;go_wp2_with fail;refine ay [.val (.pointer (some ⟨w.heap.size,0,none⟩)),.val (.pointer (some ⟨w.heap.size,0,none⟩)),.val (.string (qs (x 0))),.val (.pointer (some ⟨w2.heap.size,0,none⟩)),.val (.string (qs ((p k).x))),.val (.string (qs (x 0*(p k).x))),.val (.pointer (some ⟨w.heap.size,0,none⟩)),.val (.pointer (some ⟨w.heap.size,1,none⟩)),.val (.string (qs (x 1))),.val (.pointer (some ⟨w2.heap.size,1,none⟩)),.val (.string (qs ((p k).y))),.val (.string (qs (x 1*(p k).y))),.val (.pointer (some ⟨w.heap.size,2,none⟩)),.val (.string (qs (x 2))),.aR,.ev (.string (qs (x 0*(p k).x+x 1*(p k).y+x 2))),.val (.string (qs (x 0*(p k).x+x 1*(p k).y+x 2)))] (fun L g W=>L 14=true->∃ b,g 14 = .slice (some ⟨b,0,none⟩) 3 3/\aq W b #[.string (qs (x 0*(p k).x)),.string (qs (x 1*(p k).y)),.string (qs (x 2))] 34) (S:=fun _=>False) ag ag ag (Mv.refl HX3.o (fun k h=>h.elim)) ?_ ?_ ?_ ?_ (fun gv_ w4 hm_ he_=>?_)
   ·exact fun g h=>absurd h af
   ·exact fun L g W W1 h e a=>let ⟨b,x,y⟩:=h a;⟨b,x,y.ext e⟩
   ·intro i v L g W hi h;have n14_:i≠14:=fun e=>by subst e;exact absurd (show false=true from hi) af
    have n15_:i≠15:=fun e=>by subst e;exact absurd (show false=true from hi) af
    simp only[au n14_,av n14_,au n15_,av n15_];exact h
   ·skip
    refine RI 3 (.pointer (some ⟨w.heap.size,0,none⟩))<|R1 0<|J2 (fun hs_=>hs_.val 1) (fun hs_=>(hs_.mv.az HB0_3.o (fun h=>h)).cell 0 rfl)<|RI 7 (.pointer (some ⟨w2.heap.size,0,none⟩))<|J2 (fun hs_=>hs_.val 3) (fun hs_=>(hs_.mv.az HB1_3.o (fun h=>h)).cell 0 rfl)<|K2 (fun hs_=>hs_.val 2) (fun hs_=>hs_.val 4) (fun hs_=>bD (x 0) ((p k).x) _ (HG.o.ext hs_.mv.ext) (HX.o 0 af) (HQ.o k hlt).x af af)<|RI 3 (.pointer (some ⟨w.heap.size,0,none⟩))<|R1 6<|J2 (fun hs_=>hs_.val 7) (fun hs_=>(hs_.mv.az HB0_3.o (fun h=>h)).cell 1 rfl)<|RI 7 (.pointer (some ⟨w2.heap.size,0,none⟩))<|J2 (fun hs_=>hs_.val 9) (fun hs_=>(hs_.mv.az HB1_3.o (fun h=>h)).cell 1 rfl)<|K2 (fun hs_=>hs_.val 8) (fun hs_=>hs_.val 10) (fun hs_=>bD (x 1) ((p k).y) _ (HG.o.ext hs_.mv.ext) (HX.o 1 af) (HQ.o k hlt).y af af)<|RI 3 (.pointer (some ⟨w.heap.size,0,none⟩))<|J2 (fun hs_=>hs_.val 12) (fun hs_=>(hs_.mv.az HB0_3.o (fun h=>h)).cell 2 rfl) ?_;refine aA.cons (fun L_ g_ A_ W_ hs_=>?_) ?_
    ·have q20_:=hs_.val 5;have q26_:=hs_.val 11;have q28_:=hs_.val 13;refine cI.aR fun K_ hK_=>?_;have n14_:=hs_.not;have e_:=hs_.e;simp only[n14_,aj,if_false,if_true] at e_;clear n14_;have HE_:=ai e_;have HM_:=ai hs_.mv;clear e_;go_simp;exact hK_.o _ _ (HM_.o.alloc _) (by simp only[aM,bu,aj,if_false,if_true];exact fun _=>⟨_,rfl,aq.new _ _ _⟩)
    refine aA.cons (fun L_ g_ A_ W_ hs_=>?_) ?_
    ·have q29_:=hs_.aR 14;refine cI.ev fun K_ hK_=>?_;obtain⟨b_,g_eq,hB_⟩:=hs_.e (hs_.yes 14 ag);rw[g_eq] at q29_;have HG_:=ai g_eq;have HB_:=ai hB_;have HM_:=ai hs_.mv;clear g_eq hB_;go_simp;refine(pT (k:=26) _ _ _ b_ _ (HG.o.ext HM_.o.ext) (((HX.o 0 af).mul (HQ.o k hlt).x).mono af) (((HX.o 1 af).mul (HQ.o k hlt).y).mono af) ((HX.o 2 af).mono af) HB_.o af).mono ?_;rintro e W9_ ⟨rfl,e9_⟩;exact hK_.o _ (HM_.o.trans e9_) (by simp only[au (show(15:Nat)≠14 by decide),av (show(15:Nat)≠14 by decide)];exact fun _=>⟨b_,HG_.o,HB_.o.ext e9_⟩)
    exact J1 (fun hs_=>hs_.ev 15)<|aA.nil
   simp only[dD,Ke.value,aX,Act.put,List.setIfInBounds_toArray,List.set_cons_zero,List.set_cons_succ,Nat.reduceAdd];have HX4:Hid (Ext w w4):=ai hm_.ext;have HB0_4:=ai (hm_.az HB0_3.o (fun h=>h));have HOL_4:=ai (HOL_3.o.mv hm_ (fun q hq h=>h));have HB1_4:=ai (hm_.az HB1_3.o (fun h=>h));clear hm_ he_;have c1_2:=HB1_4.o.cell 2 rfl;go_wp2_with fail;refine cto (gP ((p k).z) (x 0*(p k).x+x 1*(p k).y+x 2) _ (HG.o.ext (HX4.o)) (HQ.o k hlt).z ((((HX.o 0 af).mul (HQ.o k hlt).x).add ((HX.o 1 af).mul (HQ.o k hlt).y)).add (HX.o 2 af)) af af) fun w5 e5=>?_
   have HX5:=ai (HX4.o.trans e5);have HB0_5:=ai (HB0_4.o.ext e5);have HOL_5:=ai (HOL_4.o.ext e5);clear e5 c1_2;go_wp2_with (
    at_builtin;refine wpList_plain rfl fun K_ hK_=>fL (X:=w) (H:=fun _ => .string (qs ((p k).z-(x 0*(p k).x+x 1*(p k).y+x 2)))) (ad:=⟨w5.heap.size,0,none⟩) (m:=1) (c:=1) (v:=.slice la ln lc) rfl rfl rfl fZ gw rfl (HX5.o.alloc _) (HOL_5.o.alloc _) (fun _=>af) (fun j hj=>by obtain rfl:j=0:=ae;exact eR (aq.nw (#[.string (qs ((p k).z-(x 0*(p k).x+x 1*(p k).y+x 2)))]) 34) rfl) (fun _ _=>rfl) (by unfold maxLen;omega) ae (fun a6_ n6_ c6_ w6 hA_=>hK_ _ _ ?_)
    have HX6:Hid (Ext w w6):=ai hA_.mv.ext;have HB0_6:Hid (aq w6 (w.heap.size) (#[.string (qs (x 0)),.string (qs (x 1)),.string (qs (x 2)),.string mo,.slice da dm dc]) 60):=ai (hA_.mv.az (HB0_5.o.alloc _) (bB.aI HOL_5.o HB0_5.o af));have HOL_6:Hid (bB w w6 34 1 (.slice a6_ n6_ c6_) (k+1) ((fun i => .string (qs (de p x i))))):=ai (wv hA_ rfl);clear hA_
   )
   go_roundw
   case rel=>exact⟨k+1,_,_,_,by go_num,rfl,ae,ai ⟨HX6.o,HB0_6.o,HOL_6.o⟩⟩
   case measure=>simp[intOf];omega
  ·have hk2:k=n:=ae;have hge:¬ (k:Int)<((n:Nat):Int):=ae;go_wp2;go_ret;exact⟨_,rfl,HX2.o,hk2▸HOL_2.o⟩
theorem Ar(vo:Option Addr)(n cap:Nat)(p:Nat->V3)(w:World)(g:Gd w)(hl:k9 w vo n p)(hq:∀ i,i<n->VB 1 (p i))(hn:n<=60)(x:Nat->Rat)(mo:ByteArray)(da:Option Addr)(dm dc:Nat)(hx:∀ j,j<3->QB 24 (x j)):Calls prog 42 #[.slice vo n cap,.agg #[.string (qs (x 0)),.string (qs (x 1)),.string (qs (x 2)),.string mo,.slice da dm dc]] w (DG n p x w):=by
 have HG:=ai g;have HL:=ai hl;have HQ:=ai hq;have HX:=ai hx;clear g hl hq hx;go_enter func42,ntmps42;go_wp2_with fail;refine aw (fun W=>Ext w W/\aq W (w.heap.size) (#[.string (qs (x 0)),.string (qs (x 1)),.string (qs (x 2)),.string mo,.slice da dm dc]) 60) ⟨((Ext.refl w).alloc _),(aq.nw (#[.string (qs (x 0)),.string (qs (x 1)),.string (qs (x 2)),.string mo,.slice da dm dc]) 60)⟩ ?_;rintro w1 ⟨e1,bB0_1⟩;have HX1:=ai e1;have HB0_1:=ai bB0_1;have HGEB0:Hid (w.heap.size<=w.heap.size):=ai (Nat.le_refl _);clear e1 bB0_1;have HOL_1:Hid (bB w w1 34 1 (.slice none 0 0) 0 ((fun i => .string (qs (de p x i))))):=ai (bB.nil _ _ _ _ _);go_wp2_with fail;go_loopw [6,5] (fun x0_ x1_ wx=>∃ k:Nat,∃ la:Option Addr,∃ ln:Nat,∃ lc:Nat,x0_ = .int .i64 k/\x1_ = .slice la ln lc/\k<=n/\Hid (Ext w wx/\aq wx (w.heap.size) (#[.string (qs (x 0)),.string (qs (x 1)),.string (qs (x 2)),.string mo,.slice da dm dc]) 60/\bB w wx 34 1 (.slice la ln lc) k ((fun i => .string (qs (de p x i)))))) (fun x0_ _ _=>n-(intOf x0_).toNat)
 case atStart=>exact⟨0,none,0,0,rfl,rfl,Nat.zero_le _,ai ⟨HX1.o,HB0_1.o,HOL_1.o⟩⟩
 case round =>
  rename World=>w2
  obtain⟨k,la,ln,lc,rfl,rfl,hkk,HH⟩:=hrel;have HX2:=ai HH.o.1;have HB0_2:=ai HH.o.2.1;have HOL_2:=ai HH.o.2.2;clear HH;by_cases hlt:k<n
  ·have hlt2:(k:Int)<((n:Nat):Int):=ae;obtain⟨la_,o_,rfl,zx_,zy_,zz_⟩:=HL.o k hlt;have HCx:Hid (w.cell? _=some (.string (qs (p k).x))):=ai zx_;have HCy:Hid (w.cell? _=some (.string (qs (p k).y))):=ai zy_;have HCz:Hid (w.cell? _=some (.string (qs (p k).z))):=ai zz_;clear zx_ zy_ zz_;go_wp2_with fail;refine ay [.val (.pointer (some ⟨w.heap.size,0,none⟩)),.val (.pointer (some ⟨w.heap.size,0,none⟩)),.val (.string (qs (x 0))),.val (.slice (some ⟨la_,o_,none⟩) n cap),.val (.int .i64 (k:Int)),.val (.pointer (some ⟨la_,o_+k*3,none⟩)),.val (.pointer (some ⟨la_,o_+k*3,none⟩)),.val (.string (qs ((p k).x))),.val (.string (qs (x 0*(p k).x))),.val (.pointer (some ⟨w.heap.size,0,none⟩)),.val (.pointer (some ⟨w.heap.size,1,none⟩)),.val (.string (qs (x 1))),.val (.slice (some ⟨la_,o_,none⟩) n cap),.val (.int .i64 (k:Int)),.val (.pointer (some ⟨la_,o_+k*3,none⟩)),.val (.pointer (some ⟨la_,o_+k*3+1,none⟩)),.val (.string (qs ((p k).y))),.val (.string (qs (x 1*(p k).y))),.val (.string (qs (x 0*(p k).x+x 1*(p k).y))),.val (.pointer (some ⟨w.heap.size,2,none⟩)),.val (.string (qs (x 2))),.val (.string (qs (x 0*(p k).x+x 1*(p k).y+x 2))),.val (.string (qs (x 0*(p k).x+x 1*(p k).y+x 2)))] (fun L g W=>True) (S:=fun _=>False) ag ag ag (Mv.refl HX2.o (fun k h=>h.elim)) ?_ ?_ ?_ ?_ (fun gv_ w3 hm_ he_=>?_)
   ·exact fun _=>trivial
   ·exact fun _ _ _ _ h _=>h
   ·exact fun _ _ _ _ _ _ h=>h
   ·skip
    exact RI 3 (.pointer (some ⟨w.heap.size,0,none⟩))<|R1 0<|J2 (fun hs_=>hs_.val 1) (fun hs_=>(hs_.mv.az HB0_2.o (fun h=>h)).cell 0 rfl)<|RI 0 (.slice (some ⟨la_,o_,none⟩) n cap)<|RI 6 (.int .i64 (k:Int))<|R2 3 4<|R1 5<|J2 (fun hs_=>hs_.val 6) (fun hs_=>ax hs_.mv.ext (HCx.o))<|K2 (fun hs_=>hs_.val 2) (fun hs_=>hs_.val 7) (fun hs_=>bD (x 0) ((p k).x) _ (HG.o.ext hs_.mv.ext) (HX.o 0 af) (HQ.o k hlt).x af af)<|RI 3 (.pointer (some ⟨w.heap.size,0,none⟩))<|R1 9<|J2 (fun hs_=>hs_.val 10) (fun hs_=>(hs_.mv.az HB0_2.o (fun h=>h)).cell 1 rfl)<|RI 0 (.slice (some ⟨la_,o_,none⟩) n cap)<|RI 6 (.int .i64 (k:Int))<|R2 12 13<|R1 14<|J2 (fun hs_=>hs_.val 15) (fun hs_=>ax hs_.mv.ext (HCy.o))<|K2 (fun hs_=>hs_.val 11) (fun hs_=>hs_.val 16) (fun hs_=>bD (x 1) ((p k).y) _ (HG.o.ext hs_.mv.ext) (HX.o 1 af) (HQ.o k hlt).y af af)<|K2 (fun hs_=>hs_.val 8) (fun hs_=>hs_.val 17) (fun hs_=>cX (x 0*(p k).x) (x 1*(p k).y) _ (HG.o.ext hs_.mv.ext) ((HX.o 0 af).mul (HQ.o k hlt).x) ((HX.o 1 af).mul (HQ.o k hlt).y) af af)<|RI 3 (.pointer (some ⟨w.heap.size,0,none⟩))<|J2 (fun hs_=>hs_.val 19) (fun hs_=>(hs_.mv.az HB0_2.o (fun h=>h)).cell 2 rfl)<|K2 (fun hs_=>hs_.val 18) (fun hs_=>hs_.val 20) (fun hs_=>cX (x 0*(p k).x+x 1*(p k).y) (x 2) _ (HG.o.ext hs_.mv.ext) (((HX.o 0 af).mul (HQ.o k hlt).x).add ((HX.o 1 af).mul (HQ.o k hlt).y)) (HX.o 2 af) af af)<|R1 21<|aA.nil
   simp only[dD,Ke.value,aX,Act.put,List.setIfInBounds_toArray,List.set_cons_zero,List.set_cons_succ];have HX3:Hid (Ext w w3):=ai hm_.ext;have HB0_3:=ai (hm_.az HB0_2.o (fun h=>h));have HOL_3:=ai (HOL_2.o.mv hm_ (fun i hi h=>h));clear hm_ he_;have cl_o____k___3___2:=ax HX3.o (HCz.o);go_wp2_with fail;refine cto (gP ((p k).z) (x 0*(p k).x+x 1*(p k).y+x 2) _ (HG.o.ext (HX3.o)) (HQ.o k hlt).z ((((HX.o 0 af).mul (HQ.o k hlt).x).add ((HX.o 1 af).mul (HQ.o k hlt).y)).add (HX.o 2 af)) af af) fun w4 e4=>?_
   have HX4:=ai (HX3.o.trans e4);have HB0_4:=ai (HB0_3.o.ext e4);have HOL_4:=ai (HOL_3.o.ext e4);clear e4 cl_o____k___3___2;go_wp2_with (
    at_builtin;refine wpList_plain rfl fun K_ hK_=>fL (X:=w) (H:=fun _ => .string (qs ((p k).z-(x 0*(p k).x+x 1*(p k).y+x 2)))) (ad:=⟨w4.heap.size,0,none⟩) (m:=1) (c:=1) (v:=.slice la ln lc) rfl rfl rfl fZ gw rfl (HX4.o.alloc _) (HOL_4.o.alloc _) (fun _=>af) (fun j hj=>by obtain rfl:j=0:=ae;exact eR (aq.nw (#[.string (qs ((p k).z-(x 0*(p k).x+x 1*(p k).y+x 2)))]) 34) rfl) (fun _ _=>rfl) (by unfold maxLen;omega) ae (fun a5_ n5_ c5_ w5 hA_=>hK_ _ _ ?_)
    have HX5:Hid (Ext w w5):=ai hA_.mv.ext;have HB0_5:Hid (aq w5 (w.heap.size) (#[.string (qs (x 0)),.string (qs (x 1)),.string (qs (x 2)),.string mo,.slice da dm dc]) 60):=ai (hA_.mv.az (HB0_4.o.alloc _) (bB.aI HOL_4.o HB0_4.o af));have HOL_5:Hid (bB w w5 34 1 (.slice a5_ n5_ c5_) (k+1) ((fun i => .string (qs (de p x i))))):=ai (wv hA_ rfl);clear hA_
   )
   go_roundw
   case rel=>exact⟨k+1,_,_,_,by go_num,rfl,ae,ai ⟨HX5.o,HB0_5.o,HOL_5.o⟩⟩
   case measure=>simp[intOf];omega
  ·have hk2:k=n:=ae;have hge:¬ (k:Int)<((n:Nat):Int):=ae;go_wp2;go_ret;exact⟨_,rfl,HX2.o,hk2▸HOL_2.o⟩
theorem wE(ro:Option Addr)(n cap:Nat)(f:Nat->Rat)(w:World)(g:Gd w)(hr:∀ i,i<n->∃ a,ro=some a/\w.cell? (a.add i)=some (.string (qs (f i))))(hf:∀ i,i<n->QB 90 (f i))(hn:n<=1000000):Calls prog 106 #[.slice ro n cap] w (aD w (.string (qs (gY f n)))):=by
 have HG:=ai g;have HR:=ai hr;have HF:=ai hf;clear g hr hf;go_enter func106,ntmps106;go_wp2_with fail;go_loopw [4,3] (fun x0_ x1_ wx=>∃ k:Nat,x0_ = .int .i64 k/\x1_ = .string (qs (gY f k))/\k<=n/\Hid (Ext w wx)) (fun x0_ _ _=>n-(intOf x0_).toNat)
 case atStart=>exact⟨0,rfl,by rw[gY,bE],Nat.zero_le _,ai (Ext.refl w)⟩
 case round =>
  rename World=>w1
  obtain⟨k,rfl,rfl,hkk,HH⟩:=hrel;have HX1:=ai HH.o;clear HH;by_cases hlt:k<n
  ·have hlt2:(k:Int)<((n:Nat):Int):=ae;obtain⟨ra,rfl,zc_⟩:=HR.o k hlt;have HCr:=ai zc_;clear zc_;have cr_k:=ax HX1.o (HCr.o);go_wp2_with fail;refine cto (zO (f k) _ (HF.o k hlt) af) fun w2 e2=>?_
   have HX2:=ai (HX1.o.trans e2);clear e2 cr_k;go_wp2_with fail;refine cto (uf (gY f k) (iw (f k)) _ (HG.o.ext (HX2.o)) (qF HF.o hkk) (HF.o k hlt).abs af af) fun w3 e3=>?_
   have HX3:=ai (HX2.o.trans e3);clear e3;go_wp2_with fail;go_roundw
   case rel=>exact⟨k+1,by go_num,rfl,ae,ai HX3.o⟩
   case measure=>simp[intOf];omega
  ·have hk2:k=n:=ae;have hge:¬ (k:Int)<((n:Nat):Int):=ae;go_wp2;go_ret;exact⟨by first|rfl|(rw[hk2];rfl),HX1.o⟩
structure D8(P:LP)(y:Nat->Rat):Prop where
 b:∀ k,k<=P.m->QB 199 (aH k (fun i=>y i*P.B i))
 a:∀ k,k<=P.m->∀ j,j<P.n->QB 199 (lp P y k j)
theorem zb(P:LP)(vr vc:Value)(va:Nat->Value)(q:Nat)(w:World)(g:Gd w)(hP:PM P w vr vc va)(vy:Value)(y:Nat->Rat)(r:Nat)(hy:Rq w vy P.m y)(hr:∀ i,i<P.m->QB r (y i))(hr2:r<=200)(hsz:D8 P y)(qb:∀ i,i<P.m->QB q (P.B i))(hnn:iS (fun i=>decide (y i<0)) P.m=false)(Q:PQ P)(hn:P.n<=60)(hm:P.m<=300)(hq1:1<=q)(hq2:q<=200)(qa:∀ i,i<P.m->∀ j,j<P.n->QB q (P.A i j)):Calls prog 140 #[.agg #[.int .i64 (P.n:Int),vr,vc],.agg #[vy]] w (GS P y w):=by
 have HPM:=ai hP;have HNN:=ai hnn;have HYR:=ai hy;have HYQ:=ai hr;have HQB:=ai qb;have HG:=ai g;have HQA:=ai qa;have HQP:=ai Q;clear hP hnn hy hr qb g qa Q;have hm6:P.m<=1000000:=ae;have HSB:Hid (∀ k,k<=P.m->QB 199 (aH k (fun i=>y i*P.B i))):=ai hsz.b;have HSA:Hid (∀ k,k<=P.m->∀ j,j<P.n->QB 199 (lp P y k j)):=ai hsz.a;have HPO:=ai HPM.o.obj;have HPF:=ai HPM.o.kl;obtain⟨co,ccap,ec_,_⟩:=HPM.o.obj;obtain⟨ro,rcap,er_,_,_,hrr⟩:=HPM.o.rows;subst er_ ec_;have HRR:=ai hrr;clear hrr;have HY0:=ai HYR.o;obtain⟨yo,ycap,ey_,_,_,hyy⟩:=HYR.o;subst ey_;have HYY:=ai hyy;clear hyy;go_enter func140,ntmps140;go_wp2_with fail;refine cto (qp (HY0.o.ext (((Ext.refl w).alloc _).alloc _)) (HG.o.ext ((((Ext.refl w).alloc _).alloc _))) (fun j hj=>(HYQ.o j hj).mono hr2) hm6) fun w1 e1=>?_
 have HX1:Hid (Ext w w1):=ai ((((Ext.refl w).alloc _).alloc _).trans e1);have HB0_1:Hid (aq w1 (w.heap.size) (#[.int .i64 (P.n:Int),.slice ro P.m rcap,.slice co P.n ccap]) 32):=ai ((((aq.nw (#[.int .i64 (P.n:Int),.slice ro P.m rcap,.slice co P.n ccap]) 32).alloc _)).ext e1);have HB1_1:Hid (aq w1 (w.heap.size+1) (#[.slice yo P.m ycap]) 36):=ai (((aq.nw (#[.slice yo P.m ycap]) 36)).ext e1);have HGEB0:Hid (w.heap.size<=w.heap.size):=ai (Nat.le_refl _);have HGEB1:Hid (w.heap.size<=w.heap.size+1):=ai ae;clear e1;have c1_0:=HB1_1.o.cell 0 rfl;go_wp2_with fail;refine((HNN.o▸qC (HY0.o.ext HX1.o) hm6)).mono ?_;rintro e w2 ⟨rfl,e2⟩;have HX2:=ai (HX1.o.trans e2);have HB0_2:=ai (HB0_1.o.ext e2);have HB1_2:=ai (HB1_1.o.ext e2);clear e2 c1_0;have c0_0:=HB0_2.o.cell 0 rfl;go_wp2_with fail;refine(gL P.n ae _).mono ?_;rintro e w3 ⟨kz1,CZ1,rfl,e3,g_,b_,c_⟩;have HNB0Bz1:Hid (w.heap.size≠kz1):=ai (Nat.ne_of_lt (Nat.lt_of_lt_of_le HB0_2.o.lt g_));have HNB1Bz1:Hid (w.heap.size+1≠kz1):=ai (Nat.ne_of_lt (Nat.lt_of_lt_of_le HB1_2.o.lt g_));have HGEBz1:Hid (w.heap.size<=kz1):=ai (Nat.le_trans HX2.o.size g_);have HX3:=ai (HX2.o.trans e3);have HB0_3:=ai (HB0_2.o.ext e3);have HB1_3:=ai (HB1_2.o.ext e3);clear e3 c0_0;have HBz1_3:=ai b_;have HCBz1:=ai c_;clear g_ b_ c_;have c1_0:=HB1_3.o.cell 0 rfl;go_wp2_with fail;clear c1_0;go_loopw [30,5] (fun x0_ x1_ wx=>∃ k:Nat,x0_ = .int .i64 k/\x1_ = .string (qs (aH k (fun i=>y i*P.B i)))/\k<=P.m/\Hid (Ext w wx/\aq wx (w.heap.size) (#[.int .i64 (P.n:Int),.slice ro P.m rcap,.slice co P.n ccap]) 32/\aq wx (w.heap.size+1) (#[.slice yo P.m ycap]) 36/\(∃ CK,aq wx kz1 CK 34/\∀ j,j<P.n->CK[j]?=some (.string (qs (lp P y k j)))))) (fun x0_ _ _=>P.m-(intOf x0_).toNat)
 case atStart=>exact⟨0,rfl,by simp only[aH];rw[bE],Nat.zero_le _,ai ⟨HX3.o,HB0_3.o,HB1_3.o,⟨_,HBz1_3.o,fun j hj=>by rw[rO,bE];exact HCBz1.o j hj⟩⟩⟩
 case round =>
  rename World=>w4
  obtain⟨k,rfl,rfl,hkk,HH⟩:=hrel;have HX4:=ai HH.o.1;have HB0_4:=ai HH.o.2.1;have HB1_4:=ai HH.o.2.2.1;obtain⟨CK,a1_,a2_⟩:=HH.o.2.2.2;have HBz1_4:=ai a1_;have HCK:=ai a2_;clear a1_ a2_;clear HH;by_cases hlt:k<P.m
  ·have hlt2:(k:Int)<((P.m:Nat):Int):=ae;have hltk:k<P.m:=hlt;obtain⟨ra,o_,rfl,zr_,zs_⟩:=HRR.o k hlt;obtain⟨fo,fcap,ef_,_,_,hff_⟩:=HPF.o k hlt;rw[ef_] at zr_;have HFF:=ai hff_;obtain⟨ya,rfl,zy_⟩:=HYY.o k hlt;have HCr:=ai zr_;have HCs:=ai zs_;have HCy:=ai zy_;clear zr_ zs_ ef_ hff_ zy_;have cy_k:=ax HX4.o (HCy.o);have c0_1:=HB0_4.o.cell 1 rfl;have cr_o____k___2___1:=ax HX4.o (HCs.o);go_wp2_with fail;refine cto (bD (y k) (P.B k) _ (HG.o.ext (HX4.o)) (HYQ.o k hltk) (HQB.o k hlt) ae ae) fun w5 e5=>?_
   have HX5:=ai (HX4.o.trans e5);have HB0_5:=ai (HB0_4.o.ext e5);have HB1_5:=ai (HB1_4.o.ext e5);have HBz1_5:=ai (HBz1_4.o.ext e5);clear e5 cy_k c0_1 cr_o____k___2___1;go_wp2_with fail;refine cto (cX (aH k (fun i=>y i*P.B i)) (y k*P.B k) _ (HG.o.ext (HX5.o)) (HSB.o k ae) ((HYQ.o k hltk).mul (HQB.o k hlt)) ae ae) fun w6 e6=>?_
   have HX6:=ai (HX5.o.trans e6);have HB0_6:=ai (HB0_5.o.ext e6);have HB1_6:=ai (HB1_5.o.ext e6);have HBz1_6:=ai (HBz1_5.o.ext e6);clear e6;have c0_1:=HB0_6.o.cell 1 rfl;have cr_o____k___2:=ax HX6.o (HCr.o);go_wp2_with fail;clear c0_1 cr_o____k___2;go_loopw [52] (fun x0_ wx=>∃ j:Nat,x0_ = .int .i64 j/\j<=P.n/\Hid (Ext w wx/\aq wx (w.heap.size) (#[.int .i64 (P.n:Int),.slice (some ⟨ra,o_,none⟩) P.m rcap,.slice co P.n ccap]) 32/\aq wx (w.heap.size+1) (#[.slice (some ya) P.m ycap]) 36/\(∃ CJ,aq wx kz1 CJ 34/\∀ i,i<P.n->CJ[i]?=some (.string (qs (if i<j then lp P y (k+1) i else lp P y k i)))))) (fun x0_ _=>P.n-(intOf x0_).toNat)
   case atStart=>exact⟨0,rfl,Nat.zero_le _,ai ⟨HX6.o,HB0_6.o,HB1_6.o,⟨_,HBz1_6.o,fun i hi=>by rw[if_neg (Nat.not_lt_zero i)];exact HCK.o i hi⟩⟩⟩
   case round =>
    rename World=>w7
    obtain⟨j,rfl,hkj,HH⟩:=hrel;have HX7:=ai HH.o.1;have HB0_7:=ai HH.o.2.1;have HB1_7:=ai HH.o.2.2.1;obtain⟨CJ,a1_,a2_⟩:=HH.o.2.2.2;have HBz1_7:=ai a1_;have HCJ:=ai a2_;clear a1_ a2_;clear HH;by_cases hlt:j<P.n
    ·have hlt2:(j:Int)<((P.n:Nat):Int):=ae;obtain⟨fa,rfl,zf_⟩:=HFF.o j hlt;have HCf:=ai zf_;have zj_:=HCJ.o j hlt;rw[if_neg ae] at zj_;have HCj:=ai zj_;clear zf_ zj_;have cf_j:=ax HX7.o (HCf.o);go_wp2_with fail;clear cf_j;refine ay [.val (.slice (some ⟨kz1,0,none⟩) P.n P.n),.val (.int .i64 (j:Int)),.val (.slice (some ⟨kz1,0,none⟩) P.n P.n),.val (.int .i64 (j:Int)),.val (.pointer (some ⟨kz1,j,none⟩)),.val (.string (qs (lp P y k j))),.val (.string (qs (y k))),.val (.string (qs (P.A k j))),.val (.string (qs (y k*P.A k j))),.val (.string (qs (lp P y k j+y k*P.A k j))),.val (.pointer (some ⟨kz1,j,none⟩)),.aR] (fun L g W=>(if L 11=true then aq W (kz1) ((CJ).setIfInBounds j (.string (qs (lp P y k j+y k*P.A k j)))) 34 else aq W (kz1) (CJ) 34)) (S:=fun k=>k=kz1) ag ag ag (Mv.refl HX7.o (fun k h=>(fun e=>Nat.le_trans (show w.heap.size<=kz1 from HGEBz1.o) (Nat.le_of_eq e.symm)) h)) ?_ ?_ ?_ ?_ (fun gv_ w8 hm_ he_=>?_)
     ·exact fun gz_=>(by rw[if_neg af];exact HBz1_7.o.drew)
     ·exact fun L g W W1 h e=>aZ (h) (fun h=>h.ext e) (fun h=>h.ext e)
     ·intro i v L g W hi h;have n11_:i≠11:=fun e=>by subst e;exact absurd (show false=true from hi) af
      simp only[au n11_,av n11_];exact h
     ·skip
      refine RI 4 (.slice (some ⟨kz1,0,none⟩) P.n P.n)<|RI 10 (.int .i64 (j:Int))<|RI 4 (.slice (some ⟨kz1,0,none⟩) P.n P.n)<|RI 10 (.int .i64 (j:Int))<|R2 2 3 ?_;refine RV (fun A_ hs_ K_ hK_=>?_) ?_;· have q61_:=hs_.val 4;have n11_:=hs_.no 11 af ag;have e11_:=hs_.e;rw[if_neg (by rw[n11_];decide)] at e11_;have cz1_j:=e11_.cell (j) HCj.o;clear e11_ n11_;go_simp;exact bY hK_
      refine RI 9 (.string (qs (y k)))<|RI 11 (.string (qs (P.A k j)))<|K2 (fun hs_=>hs_.val 6) (fun hs_=>hs_.val 7) (fun hs_=>bD (y k) (P.A k j) _ (HG.o.ext hs_.mv.ext) (HYQ.o k hltk) (HQA.o k hltk j hlt) ae ae)<|K2 (fun hs_=>hs_.val 5) (fun hs_=>hs_.val 8) (fun hs_=>cX (lp P y k j) (y k*P.A k j) _ (HG.o.ext hs_.mv.ext) (HSA.o k ae j hlt) ((HYQ.o k hltk).mul (HQA.o k hltk j hlt)) ae ae)<|R2 0 1 ?_;refine aA.cons (fun L_ g_ A_ W_ hs_=>?_) ?_
      ·have q67_:=hs_.val 10;have q66_:=hs_.val 9;refine cI.aR fun K_ hK_=>?_;have n_:=hs_.not;have e_:=hs_.e;rw[if_neg (by rw[n_];decide)] at e_;have c_0:=e_.cell (j) HCj.o;have f_0:=e_.free j;have HE_:=ai e_;have HM_:=ai hs_.mv;have HEE_:=ai hs_.e;clear e_ n_;go_simp;exact hK_.o undef _ (HM_.o.setCell (Or.inl (rfl)) _) (by rw[aM,if_pos rfl];exact(HE_.o.set j _))
      exact aA.nil
     simp only[dD,Ke.value,aX,Act.put,List.setIfInBounds_toArray,List.set_cons_zero,List.set_cons_succ];have HX8:Hid (Ext w w8):=ai hm_.ext;have HB0_8:=ai (hm_.az HB0_7.o (fun h=>((show w.heap.size≠kz1 from HNB0Bz1.o)) h));have HB1_8:=ai (hm_.az HB1_7.o (fun h=>((show w.heap.size+1≠kz1 from HNB1Bz1.o)) h));have HBz1_8:Hid (aq w8 (kz1) ((CJ).setIfInBounds j (.string (qs (lp P y k j+y k*P.A k j)))) 34):=ai (by have h_:=he_;rw[if_pos rfl] at h_;exact h_);clear hm_ he_;go_wp2_with fail;go_roundw
     case rel=>exact⟨j+1,by go_num,ae,ai ⟨HX8.o,HB0_8.o,HB1_8.o,⟨_,HBz1_8.o,vW HCJ.o⟩⟩⟩
     case measure=>simp[intOf];omega
    ·have hk2:j=P.n:=ae;have hge:¬ (j:Int)<((P.n:Nat):Int):=ae;go_wp2_with fail;go_roundw
     case rel=>exact⟨k+1,by go_num,rfl,ae,ai ⟨HX7.o,HB0_7.o,HB1_7.o,⟨_,HBz1_7.o,fun i hi=>by rw[HCJ.o i hi,if_pos ae]⟩⟩⟩
     case measure=>simp[intOf];omega
  ·have hk2:k=P.m:=ae;have hge:¬ (k:Int)<((P.m:Nat):Int):=ae;go_wp2;go_ret3;exact⟨_,rfl,HX4.o,_,_,rfl,HGEBz1.o,HBz1_4.o,fun j hj=>by rw[HCK.o j hj,hk2,pY]⟩
theorem BY (P:LP) (vr vc:Value) (va:Nat->Value) (q:Nat) (w:World) (g:Gd w) (hP:PM P w vr vc va) (vy:Value) (m:Nat) (t:Nat->ByteArray) (r:Nat) (hT:Rs w vy m t) (hts:∀ i,i<m->(t i).size<=1000000) (hm6:m<=1000000) (hq:yN t m r) (hr2:r<=200) (hsz:D8 P (yq t)) (qb:∀ i,i<P.m->QB q (P.B i))
    (Q:PQ P) (hn:P.n<=60) (hm:P.m<=300) (hq1:1<=q) (hq2:q<=200) (qa:∀ i,i<P.m->∀ j,j<P.n->QB q (P.A i j)):Calls prog 140 #[.agg #[.int .i64 (P.n:Int),vr,vc],.agg #[vy]] w (GR P t m w):=by
 by_cases hle:fW t m P.m=0
 ·obtain⟨rfl,hx⟩:=CT hle hq;have hy:Rq w vy P.m (yq t):=hT.congr fun i hi=>by rw[← (hx i hi).1]
  by_cases hnn:iS (fun i=>decide (yq t i<0)) P.m=true
  ·refine(BZ P vr vc va q w g hP vy (yq t) r hy (fun i hi=>(hx i hi).2) hr2 hnn Q hn hm hq1 hq2 qa).mono ?_;rintro e w' ⟨rfl,e1⟩;have:jC t P.m P.m=3:=by rw[jC,if_neg (fun h=>h hle),if_pos hnn]
   exact⟨e1,Or.inl ⟨by rw[this],by rw[this];decide⟩⟩
  ·refine(zb P vr vc va q w g hP vy (yq t) r hy (fun i hi=>(hx i hi).2) hr2 hsz qb (by simpa using hnn) Q hn hm hq1 hq2 qa).mono ?_;rintro e w' ⟨vf,rfl,e1,h1⟩;exact⟨e1,Or.inr ⟨vf,rfl,by rw[jC,if_neg (fun h=>h hle),if_neg hnn],fun i hi=>(hx i hi).2.mono hr2,h1⟩⟩
 ·refine(B3 P vr vc va q w g hP vy m t hT hts hm6 hle Q hn hm hq1 hq2 qa).mono ?_;rintro e w' ⟨rfl,e1⟩;have:jC t m P.m=fW t m P.m:=by rw[jC,if_pos hle]
  exact⟨e1,Or.inl ⟨by rw[this],by rw[this];exact hle⟩⟩
theorem xU(P:LP)(vr vc:Value)(va:Nat->Value)(q:Nat)(w:World)(g:Gd w)(hP:PM P w vr vc va)(vy:Value)(m:Nat)(t:Nat->ByteArray)(r:Nat)(hT:Rs w vy m t)(hts:∀ i,i<m->(t i).size<=1000000)(hm6:m<=1000000)(hq:yN t m r)(hr2:r<=200)(hsz:D8 P (yq t))(qb:∀ i,i<P.m->QB q (P.B i))(Q:PQ P)(hn:P.n<=60)(hm:P.m<=300)(hq1:1<=q)(hq2:q<=200)(qa:∀ i,i<P.m->∀ j,j<P.n->QB q (P.A i j)):Calls prog 77 #[.agg #[.int .i64 (P.n:Int),vr,vc],.agg #[vy]] w (aD w (.tuple #[.string (fV P t m).1,.int .i64 (fV P t m).2])):=by
 have HPM:=ai hP;have HT:=ai hT;have HTS:=ai hts;have HTQ:=ai hq;have HQB:=ai qb;have HG:=ai g;have HQA:=ai qa;have HQP:=ai Q;clear hP hT hts hq qb g qa Q;have HPO:=ai HPM.o.obj;have HPF:=ai HPM.o.kl;obtain⟨co,ccap,ec_,_,_,hoo⟩:=HPM.o.obj;obtain⟨ro,rcap,er_,_,_,hrr⟩:=HPM.o.rows;subst er_ ec_;have HRR:=ai hrr;clear hrr;have HOO:=ai hoo;clear hoo;have HT0:=ai HT.o;obtain⟨yo,ycap,ey_,_,_,hyy⟩:=HT.o;subst ey_;clear hyy;go_enter func77,ntmps77;go_wp2_with fail;refine cto (tq P _ _ va _ (HG.o.ext ((((Ext.refl w).alloc _).alloc _))) (HPM.o.ext (((Ext.refl w).alloc _).alloc _)) HQP.o hn hm) fun w1 e1=>?_
 have HX1:Hid (Ext w w1):=ai ((((Ext.refl w).alloc _).alloc _).trans e1);have HB0_1:Hid (aq w1 (w.heap.size) (#[.int .i64 (P.n:Int),.slice ro P.m rcap,.slice co P.n ccap]) 32):=ai ((((aq.nw (#[.int .i64 (P.n:Int),.slice ro P.m rcap,.slice co P.n ccap]) 32).alloc _)).ext e1);have HB1_1:Hid (aq w1 (w.heap.size+1) (#[.slice yo m ycap]) 36):=ai (((aq.nw (#[.slice yo m ycap]) 36)).ext e1);have HGEB0:Hid (w.heap.size<=w.heap.size):=ai (Nat.le_refl _);have HGEB1:Hid (w.heap.size<=w.heap.size+1):=ai ae;clear e1;have c0_0:=HB0_1.o.cell 0 rfl;have c0_1:=HB0_1.o.cell 1 rfl;have c0_2:=HB0_1.o.cell 2 rfl;have c1_0:=HB1_1.o.cell 0 rfl;go_wp2_with fail;refine(BY P _ _ va q _ (HG.o.ext (HX1.o)) (HPM.o.ext HX1.o) _ m t r (HT0.o.ext HX1.o) HTS.o hm6 HTQ.o hr2 hsz HQB.o HQP.o hn hm hq1 hq2 HQA.o).mono ?_;rintro e w2 ⟨e2,h_⟩;have HX2:=ai (HX1.o.trans e2);have HB0_2:=ai (HB0_1.o.ext e2);have HB1_2:=ai (HB1_1.o.ext e2);clear e2 c0_0 c0_1 c0_2 c1_0;rcases h_ with⟨rfl,hc⟩|⟨vf,rfl,hm0,hyq,hnq⟩
 ·have HME:=ai hc;have hz2:¬ jC t m P.m=0:=hc;clear hc;go_wp2;go_ret2;exact⟨by rw[fV,if_pos HME.o];rfl,HX2.o⟩
 ·have HM0:=ai hm0;have HYQ:=ai hyq;clear hm0 hyq;obtain⟨fk,CF,rfl,gf_,bf_,cf_⟩:=hnq;have HNF:=ai (⟨fk,CF,rfl,gf_,bf_,cf_⟩:Nq _ _ _ P.n (P.comb (yq t)));have HCF:=ai cf_;have HBF0:=ai bf_;clear gf_ bf_ cf_;have HBN:=ai (hsz.b P.m (Nat.le_refl _):QB 199 (P.oh (yq t)));have HSC:=ai (fun j hj=>(by have:=hsz.a P.m (Nat.le_refl _) j hj;rwa[pY] at this:QB 199 (P.comb (yq t) j)));go_wp2_with fail;go_loopw [29] (fun x0_ wx=>∃ k:Nat,x0_ = .int .i64 k/\k<=P.n/\Hid (∀ j,j<k->P.comb (yq t) j=-P.C j)/\Hid (Ext w wx/\aq wx (w.heap.size) (#[.int .i64 (P.n:Int),.slice ro P.m rcap,.slice co P.n ccap]) 32/\aq wx (w.heap.size+1) (#[.slice yo m ycap]) 36/\aq wx (fk) (CF) 34)) (fun x0_ _=>P.n-(intOf x0_).toNat)
  case atStart=>exact⟨0,rfl,Nat.zero_le _,ai ((fun j hj=>absurd hj (Nat.not_lt_zero j))),ai ⟨HX2.o,HB0_2.o,HB1_2.o,HBF0.o⟩⟩
  case round =>
   rename World=>w3
   obtain⟨k,rfl,hkk,HGk,HH⟩:=hrel;have HX3:=ai HH.o.1;have HB0_3:=ai HH.o.2.1;have HB1_3:=ai HH.o.2.2.1;have HBf_3:=ai HH.o.2.2.2;clear HH;by_cases hlt:k<P.n
   ·have hlt2:(k:Int)<((P.n:Nat):Int):=ae;obtain⟨ca,rfl,zc_⟩:=HOO.o k hlt;have HCc:=ai zc_;clear zc_;have cf_k:=HBf_3.o.cell (k) (HCF.o k hlt);go_upto_region 10 with fail
    clear cf_k;by_cases hz:P.comb (yq t) k+P.C k=0
    ·have z1:=cC hz;have HZ:=ai hz;clear hz;have c0_2:=HB0_3.o.cell 2 rfl;have cc_k:=ax HX3.o (HCc.o);go_wp2_with fail;refine cto (cX (P.comb (yq t) k) (P.C k) _ (HG.o.ext (HX3.o)) (HSC.o k hlt) ((HQP.o.C k hlt).mono (Nat.le_refl _)) ae ae) fun w4 e4=>?_
     have HX4:=ai (HX3.o.trans e4);have HB0_4:=ai (HB0_3.o.ext e4);have HB1_4:=ai (HB1_3.o.ext e4);have HBf_4:=ai (HBf_3.o.ext e4);clear e4 c0_2 cc_k;go_wp2_with fail;go_roundw
     case rel=>exact⟨k+1,by go_num,ae,ai (Df HZ.o HGk.o),ai ⟨HX4.o,HB0_4.o,HB1_4.o,HBf_4.o⟩⟩
     case measure=>simp[intOf];omega
    ·have z1:=aV hz;have HZ:=ai hz;clear hz;have c0_2:=HB0_3.o.cell 2 rfl;have cc_k:=ax HX3.o (HCc.o);go_wp2_with fail;refine cto (cX (P.comb (yq t) k) (P.C k) _ (HG.o.ext (HX3.o)) (HSC.o k hlt) ((HQP.o.C k hlt).mono (Nat.le_refl _)) ae ae) fun w4 e4=>?_
     have HX4:=ai (HX3.o.trans e4);have HB0_4:=ai (HB0_3.o.ext e4);have HB1_4:=ai (HB1_3.o.ext e4);have HBf_4:=ai (HBf_3.o.ext e4);clear e4 c0_2 cc_k;go_wp2;go_ret2;exact⟨by rw[fV,if_neg (fun h=>h HM0.o),if_neg (fun h=>HZ.o (by rw[h k hlt];grind))];rfl,HX4.o⟩
   ·have hk2:k=P.n:=ae;have hge:¬ (k:Int)<((P.n:Nat):Int):=ae;go_wp2_with fail;refine cto (b8 (P.oh (yq t)) _ HBN.o ae) fun w4 e4=>?_
    have HX4:=ai (HX3.o.trans e4);have HB0_4:=ai (HB0_3.o.ext e4);have HB1_4:=ai (HB1_3.o.ext e4);have HBf_4:=ai (HBf_3.o.ext e4);clear e4;go_wp2_with fail;refine cto (rz (-P.oh (yq t)) _ (HG.o.ext (HX4.o)) (HBN.o.neg.mono ae)) fun w5 e5=>?_
    have HX5:=ai (HX4.o.trans e5);have HB0_5:=ai (HB0_4.o.ext e5);have HB1_5:=ai (HB1_4.o.ext e5);have HBf_5:=ai (HBf_4.o.ext e5);clear e5;go_wp2;go_ret2;exact⟨by rw[fV,if_neg (fun h=>h HM0.o),if_pos (fun j hj=>HGk.o j ae)];rfl,HX5.o⟩
noncomputable def BD (s:Nat->ByteArray) (mo:ByteArray):Bool:=rq (s 0) && rq (s 1) && rq (s 2) && rq mo
noncomputable def tE (s:Nat->ByteArray) (mo:ByteArray):Int:=if BD s mo=true then 0 else 2
noncomputable def oi (n:Nat) (p:Nat->V3) (s:Nat->ByteArray) (mo:ByteArray) (t:Nat->ByteArray) (m:Nat):Int :=
 if BD s mo=true then(if (fV (aG n p) t m).2≠0 then(fV (aG n p) t m).2 else if (fV (aG n p) t m).1=mo/\qs (gY (de p (yq s)) n)=mo then 0 else 23) else 2
theorem AP (s:Nat->ByteArray) (mo:ByteArray):(BD s mo=false/\rq (s 0)=false/\cg [s 0,s 1]=2)∨(BD s mo=false/\rq (s 0)=true/\rq (s 1)=false/\cg [s 0,s 1]=2)∨(BD s mo=false/\rq (s 0)=true/\rq (s 1)=true/\rq (s 2)=false/\cg [s 0,s 1]=0) ∨
    (BD s mo=false/\rq (s 0)=true/\rq (s 1)=true/\rq (s 2)=true/\rq mo=false/\cg [s 0,s 1]=0)∨(BD s mo=true/\rq (s 0)=true/\rq (s 1)=true/\rq (s 2)=true/\rq mo=true/\cg [s 0,s 1]=0):=by
 unfold BD cg;cases h0:rq (s 0) <;> cases h1:rq (s 1) <;> cases h2:rq (s 2) <;> cases h3:rq mo <;> simp[h0,h1,h2,h3]
structure F7(s:Nat->ByteArray)(mo:ByteArray):Prop where
 sz:∀ j,j<3->(s j).size<=1000000
 mo:mo.size<=1000000
 q:yN s 3 24
theorem F7.x6{s:Nat->ByteArray}{mo:ByteArray}(h:F7 s mo)(r0:rq (s 0)=true)(r1:rq (s 1)=true)(r2:rq (s 2)=true):∀ j,j<3->s j=qs (yq s j)/\QB 24 (yq s j):=fun j hj=>by
 have:rq (s j)=true:=by rcases (by omega:j=0∨j=1∨j=2) with rfl|rfl|rfl <;> assumption
 obtain⟨x,e,hx⟩:=h.q j hj this;rw[yq,e,wg];exact⟨rfl,hx⟩
section
variable {vo:Option Addr} {n cap:Nat} {p:Nat->V3} {w:World} {s:Nat->ByteArray} {mo:ByteArray} {da:Option Addr} {m dc:Nat}
theorem AQ (g:Gd w) (hl:k9 w vo n p) (hq:∀ i,i<n->VB 1 (p i)) (hn:n<=60) (hs:∀ j,j<3->s j=qs (yq s j)/\QB 24 (yq s j)) :
    Calls prog 108 #[.slice vo n cap,.agg #[.string (s 0),.string (s 1),.string (s 2),.string mo,.slice da m dc]] w (DG n p (yq s) w):=by
 have:=AR vo n cap p w g hl hq hn (yq s) mo da m dc (fun j hj=>(hs j hj).2);rwa[← (hs 0 af).1,← (hs 1 af).1,← (hs 2 af).1] at this
theorem sw (g:Gd w) (hl:k9 w vo n p) (hq:∀ i,i<n->VB 1 (p i)) (hn:n<=60) (hs:∀ j,j<3->s j=qs (yq s j)/\QB 24 (yq s j)) :
    Calls prog 42 #[.slice vo n cap,.agg #[.string (s 0),.string (s 1),.string (s 2),.string mo,.slice da m dc]] w (DG n p (yq s) w):=by
 have:=Ar vo n cap p w g hl hq hn (yq s) mo da m dc (fun j hj=>(hs j hj).2);rwa[← (hs 0 af).1,← (hs 1 af).1,← (hs 2 af).1] at this
theorem s9 (g:Gd w) {vr vc vd:Value} {va:Nat->Value} (hP:PM (aG n p) w vr vc va) (h:∀ i,i<n->bK (p i)) (hn:n<=60) {t:Nat->ByteArray} (hT:Rs w vd m t) (hts:∀ i,i<m->(t i).size<=1000000) (hm:m<=1000000) (hq:yN t m 200) (hz:D8 (aG n p) (yq t)) :
    Calls prog 77 #[.agg #[.int .i64 4,vr,vc],.agg #[vd]] w (aD w (.tuple #[.string (fV (aG n p) t m).1,.int .i64 (fV (aG n p) t m).2])) :=
 xU (aG n p) vr vc va 1 w g hP vd m t 200 hT hts hm hq af hz (fun i hi=>ee (wS h i hi)) (AT h) (by show 4<=60;decide) (by show 2*n<=300;omega) af af (fun i hi j _=>ee (sW h i hi j))
end
theorem gH(vo:Option Addr)(n cap:Nat)(p:Nat->V3)(w:World)(g:Gd w)(hl:k9 w vo n p)(hq:∀ i,i<n->bK (p i))(hn0:0<n)(hn:n<=60)(s:Nat->ByteArray)(mo:ByteArray)(da:Option Addr)(m dc:Nat)(hf:F7 s mo):Calls prog 107 #[.slice vo n cap,.agg #[.string (s 0),.string (s 1),.string (s 2),.string mo,.slice da m dc]] w (aD w (.int .i64 (tE s mo))):=by
 have HG:=ai g;have HL:=ai hl;have HQ:=ai hq;have HF:=ai hf;clear g hl hq hf;have HOK:=ai (uU HQ.o hn0 hn);go_enter func107,ntmps107;go_wp2_with fail;refine((HOK.o▸kY vo n cap (fun k=>vt (p k)) _ (HG.o.ext (((Ext.refl w).alloc _))) (vF.ext HL.o ((Ext.refl w).alloc _)) (fun k hk=>rA (HQ.o k hk).vb af) ae)).mono ?_;rintro e w1 ⟨rfl,e1⟩;have HX1:Hid (Ext w w1):=ai (((Ext.refl w).alloc _).trans e1);have HB0_1:Hid (aq w1 (w.heap.size) (#[.string (s 0),.string (s 1),.string (s 2),.string mo,.slice da m dc]) 60):=ai (((aq.nw (#[.string (s 0),.string (s 1),.string (s 2),.string mo,.slice da m dc]) 60)).ext e1);have HGEB0:Hid (w.heap.size<=w.heap.size):=ai (Nat.le_refl _);clear e1;go_upto_region 4 with fail
 rcases AP s mo with⟨e_,r0_,te_⟩|⟨e_,r0_,r1_,te_⟩|⟨e_,r0_,r1_,r2_,te_⟩|⟨e_,r0_,r1_,r2_,r3_,te_⟩|⟨e_,r0_,r1_,r2_,r3_,te_⟩
 ·have HFQ:=ai e_;have HTE:=ai te_;have HR0:=ai r0_;clear e_ r0_ te_;have c0_0:=HB0_1.o.cell 0 rfl;have c0_1:=HB0_1.o.cell 1 rfl;go_wp2_with fail;refine((HTE.o▸dz ⟨s 0,s 1⟩ _ (HG.o.ext (HX1.o)) ⟨HF.o.sz 0 af,HF.o.sz 1 af⟩)).mono ?_;rintro e w2 ⟨rfl,e2⟩;have HX2:=ai (HX1.o.trans e2);have HB0_2:=ai (HB0_1.o.ext e2);clear e2 c0_0 c0_1;go_wp2;go_ret;exact⟨by rw[tE,HFQ.o];rfl,HX2.o⟩
 ·have HFQ:=ai e_;have HTE:=ai te_;have HR0:=ai r0_;have HR1:=ai r1_;clear e_ r0_ r1_ te_;have c0_0:=HB0_1.o.cell 0 rfl;have c0_1:=HB0_1.o.cell 1 rfl;go_wp2_with fail;refine((HTE.o▸dz ⟨s 0,s 1⟩ _ (HG.o.ext (HX1.o)) ⟨HF.o.sz 0 af,HF.o.sz 1 af⟩)).mono ?_;rintro e w2 ⟨rfl,e2⟩;have HX2:=ai (HX1.o.trans e2);have HB0_2:=ai (HB0_1.o.ext e2);clear e2 c0_0 c0_1;go_wp2;go_ret;exact⟨by rw[tE,HFQ.o];rfl,HX2.o⟩
 ·have HFQ:=ai e_;have HTE:=ai te_;have HR0:=ai r0_;have HR1:=ai r1_;have HR2:=ai r2_;clear e_ r0_ r1_ r2_ te_;have c0_0:=HB0_1.o.cell 0 rfl;have c0_1:=HB0_1.o.cell 1 rfl;go_wp2_with fail;refine((HTE.o▸dz ⟨s 0,s 1⟩ _ (HG.o.ext (HX1.o)) ⟨HF.o.sz 0 af,HF.o.sz 1 af⟩)).mono ?_;rintro e w2 ⟨rfl,e2⟩;have HX2:=ai (HX1.o.trans e2);have HB0_2:=ai (HB0_1.o.ext e2);clear e2 c0_0 c0_1;have c0_2:=HB0_2.o.cell 2 rfl;go_wp2_with fail;refine cto (fK _ _ (HG.o.ext (HX2.o)) (HF.o.sz 2 af) HR2.o) fun w3 e3=>?_
  have HX3:=ai (HX2.o.trans e3);have HB0_3:=ai (HB0_2.o.ext e3);clear e3 c0_2;go_wp2;go_ret;exact⟨by rw[tE,HFQ.o];rfl,HX3.o⟩
 ·have HFQ:=ai e_;have HTE:=ai te_;have HR0:=ai r0_;have HR1:=ai r1_;have HR2:=ai r2_;have HR3:=ai r3_;clear e_ r0_ r1_ r2_ r3_ te_;have c0_0:=HB0_1.o.cell 0 rfl;have c0_1:=HB0_1.o.cell 1 rfl;go_wp2_with fail;refine((HTE.o▸dz ⟨s 0,s 1⟩ _ (HG.o.ext (HX1.o)) ⟨HF.o.sz 0 af,HF.o.sz 1 af⟩)).mono ?_;rintro e w2 ⟨rfl,e2⟩;have HX2:=ai (HX1.o.trans e2);have HB0_2:=ai (HB0_1.o.ext e2);clear e2 c0_0 c0_1;have c0_2:=HB0_2.o.cell 2 rfl;go_wp2_with fail;refine cto (dw _ _ (HG.o.ext (HX2.o)) (HF.o.sz 2 af) HR2.o) fun w3 e3=>?_
  have HX3:=ai (HX2.o.trans e3);have HB0_3:=ai (HB0_2.o.ext e3);clear e3 c0_2;have c0_3:=HB0_3.o.cell 3 rfl;go_wp2_with fail;refine cto (fK _ _ (HG.o.ext (HX3.o)) HF.o.mo HR3.o) fun w4 e4=>?_
  have HX4:=ai (HX3.o.trans e4);clear e4 c0_3;go_wp2;go_ret;exact⟨by rw[tE,HFQ.o];rfl,HX4.o⟩
 ·have HFQ:=ai e_;have HTE:=ai te_;have HR0:=ai r0_;have HR1:=ai r1_;have HR2:=ai r2_;have HR3:=ai r3_;clear e_ r0_ r1_ r2_ r3_ te_;have c0_0:=HB0_1.o.cell 0 rfl;have c0_1:=HB0_1.o.cell 1 rfl;go_wp2_with fail;refine((HTE.o▸dz ⟨s 0,s 1⟩ _ (HG.o.ext (HX1.o)) ⟨HF.o.sz 0 af,HF.o.sz 1 af⟩)).mono ?_;rintro e w2 ⟨rfl,e2⟩;have HX2:=ai (HX1.o.trans e2);have HB0_2:=ai (HB0_1.o.ext e2);clear e2 c0_0 c0_1;have c0_2:=HB0_2.o.cell 2 rfl;go_wp2_with fail;refine cto (dw _ _ (HG.o.ext (HX2.o)) (HF.o.sz 2 af) HR2.o) fun w3 e3=>?_
  have HX3:=ai (HX2.o.trans e3);have HB0_3:=ai (HB0_2.o.ext e3);clear e3 c0_2;have c0_3:=HB0_3.o.cell 3 rfl;go_wp2_with fail;refine cto (dw _ _ (HG.o.ext (HX3.o)) HF.o.mo HR3.o) fun w4 e4=>?_
  have HX4:=ai (HX3.o.trans e4);clear e4 c0_3;go_wp2;go_ret;exact⟨by rw[tE,HFQ.o];rfl,HX4.o⟩
theorem yp(vo:Option Addr)(n cap:Nat)(p:Nat->V3)(w:World)(g:Gd w)(hl:k9 w vo n p)(hq:∀ i,i<n->bK (p i))(hn0:0<n)(hn:n<=60)(s:Nat->ByteArray)(mo:ByteArray)(da:Option Addr)(m dc:Nat)(hf:F7 s mo)(t:Nat->ByteArray)(hT:Rs w (.slice da m dc) m t)(hts:∀ i,i<m->(t i).size<=1000000)(hm:m<=1000000)(htq:yN t m 200)(hz:D8 (aG n p) (yq t)):Calls prog 37 #[.slice vo n cap,.agg #[.string (s 0),.string (s 1),.string (s 2),.string mo,.slice da m dc]] w (aD w (.int .i64 (oi n p s mo t m))):=by
 have HG:=ai g;have HL:=ai hl;have HQ:=ai hq;have HF:=ai hf;have HT:=ai hT;have HTS:=ai hts;have HTQ:=ai htq;have HZ:=ai hz;clear g hl hq hf hT hts htq hz;go_enter func37,ntmps37;go_upto_region 1 with fail
 refine aw (fun W=>Ext w W/\aq W (w.heap.size) (#[.string (s 0),.string (s 1),.string (s 2),.string mo,.slice da m dc]) 60) ⟨((Ext.refl w).alloc _),(aq.nw (#[.string (s 0),.string (s 1),.string (s 2),.string mo,.slice da m dc]) 60)⟩ ?_;rintro w1 ⟨e1,bB0_1⟩;have HX1:=ai e1;have HB0_1:=ai bB0_1;have HGEB0:Hid (w.heap.size<=w.heap.size):=ai (Nat.le_refl _);clear e1 bB0_1;rcases AP s mo with⟨e_,r0_,te_⟩|⟨e_,r0_,r1_,te_⟩|⟨e_,r0_,r1_,r2_,te_⟩|⟨e_,r0_,r1_,r2_,r3_,te_⟩|⟨e_,r0_,r1_,r2_,r3_,te_⟩
 ·have HFQ:=ai e_;have HTE:=ai te_;have HR0:=ai r0_;clear e_ r0_ te_;have HUS:Hid (tE s mo=2):=ai (by rw[tE,HFQ.o];rfl);have c0_0:=HB0_1.o.cell 0 rfl;have c0_1:=HB0_1.o.cell 1 rfl;have c0_2:=HB0_1.o.cell 2 rfl;have c0_3:=HB0_1.o.cell 3 rfl;have c0_4:=HB0_1.o.cell 4 rfl;go_wp2_with fail;refine((HUS.o▸gH vo n cap p _ (HG.o.ext (HX1.o)) (HL.o.ext HX1.o) HQ.o hn0 hn s mo da m dc HF.o)).mono ?_;rintro e w2 ⟨rfl,e2⟩;have HX2:=ai (HX1.o.trans e2);have HB0_2:=ai (HB0_1.o.ext e2);clear e2 c0_0 c0_1 c0_2 c0_3 c0_4;go_wp2;go_ret;exact⟨by rw[oi,if_neg (by rw[HFQ.o];decide)];rfl,HX2.o⟩
 ·have HFQ:=ai e_;have HTE:=ai te_;have HR0:=ai r0_;have HR1:=ai r1_;clear e_ r0_ r1_ te_;have HUS:Hid (tE s mo=2):=ai (by rw[tE,HFQ.o];rfl);have c0_0:=HB0_1.o.cell 0 rfl;have c0_1:=HB0_1.o.cell 1 rfl;have c0_2:=HB0_1.o.cell 2 rfl;have c0_3:=HB0_1.o.cell 3 rfl;have c0_4:=HB0_1.o.cell 4 rfl;go_wp2_with fail;refine((HUS.o▸gH vo n cap p _ (HG.o.ext (HX1.o)) (HL.o.ext HX1.o) HQ.o hn0 hn s mo da m dc HF.o)).mono ?_;rintro e w2 ⟨rfl,e2⟩;have HX2:=ai (HX1.o.trans e2);have HB0_2:=ai (HB0_1.o.ext e2);clear e2 c0_0 c0_1 c0_2 c0_3 c0_4;go_wp2;go_ret;exact⟨by rw[oi,if_neg (by rw[HFQ.o];decide)];rfl,HX2.o⟩
 ·have HFQ:=ai e_;have HTE:=ai te_;have HR0:=ai r0_;have HR1:=ai r1_;have HR2:=ai r2_;clear e_ r0_ r1_ r2_ te_;have HUS:Hid (tE s mo=2):=ai (by rw[tE,HFQ.o];rfl);have c0_0:=HB0_1.o.cell 0 rfl;have c0_1:=HB0_1.o.cell 1 rfl;have c0_2:=HB0_1.o.cell 2 rfl;have c0_3:=HB0_1.o.cell 3 rfl;have c0_4:=HB0_1.o.cell 4 rfl;go_wp2_with fail;refine((HUS.o▸gH vo n cap p _ (HG.o.ext (HX1.o)) (HL.o.ext HX1.o) HQ.o hn0 hn s mo da m dc HF.o)).mono ?_;rintro e w2 ⟨rfl,e2⟩;have HX2:=ai (HX1.o.trans e2);have HB0_2:=ai (HB0_1.o.ext e2);clear e2 c0_0 c0_1 c0_2 c0_3 c0_4;go_wp2;go_ret;exact⟨by rw[oi,if_neg (by rw[HFQ.o];decide)];rfl,HX2.o⟩
 ·have HFQ:=ai e_;have HTE:=ai te_;have HR0:=ai r0_;have HR1:=ai r1_;have HR2:=ai r2_;have HR3:=ai r3_;clear e_ r0_ r1_ r2_ r3_ te_;have HUS:Hid (tE s mo=2):=ai (by rw[tE,HFQ.o];rfl);have c0_0:=HB0_1.o.cell 0 rfl;have c0_1:=HB0_1.o.cell 1 rfl;have c0_2:=HB0_1.o.cell 2 rfl;have c0_3:=HB0_1.o.cell 3 rfl;have c0_4:=HB0_1.o.cell 4 rfl;go_wp2_with fail;refine((HUS.o▸gH vo n cap p _ (HG.o.ext (HX1.o)) (HL.o.ext HX1.o) HQ.o hn0 hn s mo da m dc HF.o)).mono ?_;rintro e w2 ⟨rfl,e2⟩;have HX2:=ai (HX1.o.trans e2);have HB0_2:=ai (HB0_1.o.ext e2);clear e2 c0_0 c0_1 c0_2 c0_3 c0_4;go_wp2;go_ret;exact⟨by rw[oi,if_neg (by rw[HFQ.o];decide)];rfl,HX2.o⟩
 ·have HFQ:=ai e_;have HTE:=ai te_;have HR0:=ai r0_;have HR1:=ai r1_;have HR2:=ai r2_;have HR3:=ai r3_;clear e_ r0_ r1_ r2_ r3_ te_;have HUS:Hid (tE s mo=0):=ai (by rw[tE,HFQ.o];rfl);have c0_0:=HB0_1.o.cell 0 rfl;have c0_1:=HB0_1.o.cell 1 rfl;have c0_2:=HB0_1.o.cell 2 rfl;have c0_3:=HB0_1.o.cell 3 rfl;have c0_4:=HB0_1.o.cell 4 rfl;go_wp2_with fail;refine((HUS.o▸gH vo n cap p _ (HG.o.ext (HX1.o)) (HL.o.ext HX1.o) HQ.o hn0 hn s mo da m dc HF.o)).mono ?_;rintro e w2 ⟨rfl,e2⟩;have HX2:=ai (HX1.o.trans e2);have HB0_2:=ai (HB0_1.o.ext e2);clear e2 c0_0 c0_1 c0_2 c0_3 c0_4;go_wp2_with fail;go_wp2_with fail;refine ay [.val (.slice vo n cap),.aR,.val (.pointer (some ⟨w.heap.size,4,none⟩)),.val (.agg #[.slice da m dc]),.ev (.tuple #[.string ((fV (aG n p) t m).1),.int .i64 ((fV (aG n p) t m).2)]),.val (.tuple #[.string ((fV (aG n p) t m).1),.int .i64 ((fV (aG n p) t m).2)]),.val (.string ((fV (aG n p) t m).1)),.val (.int .i64 ((fV (aG n p) t m).2)),.val (.string ((fV (aG n p) t m).1)),.val (.int .i64 ((fV (aG n p) t m).2))] (fun L g W=>L 1=true->∃ vr vc va,g 1 = .agg #[.int .i64 4,vr,vc]/\PM (aG n p) W vr vc va) (S:=fun _=>False) ag ag ag (Mv.refl HX2.o (fun k h=>h.elim)) ?_ ?_ ?_ ?_ (fun gv_ w3 hm_ he_=>?_)
  ·exact fun g h=>absurd h af
  ·exact fun L g W W1 h e a=>let ⟨b,x,y,z,u⟩:=h a;⟨b,x,y,z,u.ext e⟩
  ·intro i v L g W hi h;have n1_:i≠1:=fun e=>by subst e;exact absurd (show false=true from hi) af
   have n4_:i≠4:=fun e=>by subst e;exact absurd (show false=true from hi) af
   simp only[au n1_,av n1_,au n4_,av n4_];exact h
  ·skip
   refine RI 0 (.slice vo n cap) ?_;refine aA.cons (fun L_ g_ A_ W_ hs_=>?_) ?_
   ·have q18_:=hs_.val 0;refine cI.aR fun K_ hK_=>?_;have n1_:=hs_.not;have e_:=hs_.e;simp only[n1_,aj,if_false,if_true] at e_;clear n1_;have HE_:=ai e_;have HM_:=ai hs_.mv;clear e_;go_simp;refine(wO vo n cap p _ (HG.o.ext HM_.o.ext) (HL.o.ext HM_.o.ext) (fun i hi=>(HQ.o i hi).vb) hn).mono ?_;rintro e W9_ ⟨vr_,vc_,va_,he9_,e9_,pm_⟩;replace he9_:e = .returned (.agg #[.int .i64 4,vr_,vc_]):=he9_;subst he9_;exact hK_.o _ W9_ (HM_.o.trans e9_) (by simp only[aM,bu,aj,if_false,if_true];exact fun _=>⟨vr_,vc_,va_,rfl,pm_⟩)
   refine RI 3 (.pointer (some ⟨w.heap.size,0,none⟩))<|J2 (fun hs_=>hs_.val 2) (fun hs_=>(hs_.mv.az HB0_2.o (fun h=>h)).cell 4 rfl) ?_;refine aA.cons (fun L_ g_ A_ W_ hs_=>?_) ?_
   ·have q19_:=hs_.aR 1;have q21_:=hs_.val 3;refine cI.ev fun K_ hK_=>?_;obtain⟨vr_,vc_,va_,g_eq,pm_⟩:=hs_.e (hs_.yes 1 ag);rw[g_eq] at q19_;have HG_:=ai g_eq;have HP_:=ai pm_;have HM_:=ai hs_.mv;clear g_eq pm_;go_simp;refine(s9 (HG.o.ext HM_.o.ext) HP_.o HQ.o hn (HT.o.ext HM_.o.ext) HTS.o hm HTQ.o HZ.o).mono ?_;rintro e W9_ ⟨rfl,e9_⟩;exact hK_.o _ (HM_.o.trans e9_) (by simp only[au (show(4:Nat)≠1 by decide),av (show(4:Nat)≠1 by decide)];exact fun _=>⟨vr_,vc_,va_,HG_.o,HP_.o.ext e9_⟩)
   exact J1 (fun hs_=>hs_.ev 4)<|R1 5<|R1 5<|R1 6<|R1 7<|aA.nil
  simp only[dD,Ke.value,aX,Act.put,List.setIfInBounds_toArray,List.set_cons_zero,List.set_cons_succ,Nat.reduceAdd];have HX3:Hid (Ext w w3):=ai hm_.ext;have HB0_3:=ai (hm_.az HB0_2.o (fun h=>h));clear hm_ he_;go_upto_region 5 with fail
  by_cases hb:(fV (aG n p) t m).2≠0
  ·have hz2:¬ (fV (aG n p) t m).2=0:=hb;go_wp2;go_ret;exact⟨by rw[oi,if_pos HFQ.o,if_pos hb];rfl,HX3.o⟩
  ·have hb:=Classical.not_not.1 hb;have hz2:(fV (aG n p) t m).2=0:=hb;have c0_0:=HB0_3.o.cell 0 rfl;have c0_1:=HB0_3.o.cell 1 rfl;have c0_2:=HB0_3.o.cell 2 rfl;have c0_3:=HB0_3.o.cell 3 rfl;have c0_4:=HB0_3.o.cell 4 rfl;go_wp2_with fail;refine(AQ (HG.o.ext (HX3.o)) (HL.o.ext HX3.o) (fun i hi=>(HQ.o i hi).vb) hn (HF.o.x6 HR0.o HR1.o HR2.o)).mono ?_;rintro e w4 ⟨v_,rfl,e4,ol_⟩;obtain⟨la,lc,rfl⟩:=ol_.uG;obtain⟨_,_,el_,_,_,hc_⟩:=ol_.rd;cases el_;have HX4:=ai (HX3.o.trans e4);have HB0_4:=ai (HB0_3.o.ext e4);clear e4 c0_0 c0_1 c0_2 c0_3 c0_4;have HRD:=ai hc_;clear hc_ ol_;have HM3_4:Hid (Fr w4 w4):=ai (Fr.refl _);have HFR:Hid (∀ i,i<n->QB 90 (de p (yq s) i)):=ai (fun i hi=>qN (HQ.o i hi).vb (fun j hj=>(HF.o.x6 HR0.o HR1.o HR2.o j hj).2));go_wp2_with fail;go_loopw [32,8] (fun x0_ x1_ wx=>∃ k:Nat,x0_ = .int .i64 k/\x1_ = .string (qs (gY (de p (yq s)) k))/\k<=n/\Hid (Ext w wx/\aq wx (w.heap.size) (#[.string (s 0),.string (s 1),.string (s 2),.string mo,.slice da m dc]) 60/\Fr w4 wx)) (fun x0_ _ _=>n-(intOf x0_).toNat)
   case atStart=>exact⟨0,rfl,by rw[gY,bE],Nat.zero_le _,ai ⟨HX4.o,HB0_4.o,HM3_4.o⟩⟩
   case round =>
    rename World=>w5
    obtain⟨k,rfl,rfl,hkk,HH⟩:=hrel;have HX5:=ai HH.o.1;have HB0_5:=ai HH.o.2.1;have HM3_5:=ai HH.o.2.2;clear HH;by_cases hlt:k<n
    ·have hlt2:(k:Int)<((n:Nat):Int):=ae;obtain⟨ra,rfl,zc_⟩:=HRD.o k hlt;have HCr:=ai zc_;clear zc_;have cr_k:=ax HM3_5.o.out (HCr.o);go_wp2_with fail;refine cto (zO (de p (yq s) k) _ (HFR.o k hlt) af) fun w6 e6=>?_
     have HX6:=ai (HX5.o.trans e6);have HB0_6:=ai (HB0_5.o.ext e6);have HM3_6:=ai (HM3_5.o.ext e6);clear e6 cr_k;go_wp2_with fail;refine cto (uf (gY (de p (yq s)) k) (iw (de p (yq s) k)) _ (HG.o.ext (HX6.o)) (qF HFR.o hkk) (HFR.o k hlt).abs af af) fun w7 e7=>?_
     have HX7:=ai (HX6.o.trans e7);have HB0_7:=ai (HB0_6.o.ext e7);have HM3_7:=ai (HM3_6.o.ext e7);clear e7;go_wp2_with fail;go_roundw
     case rel=>exact⟨k+1,by go_num,rfl,ae,ai ⟨HX7.o,HB0_7.o,HM3_7.o⟩⟩
     case measure=>simp[intOf];omega
    ·have hk2:k=n:=ae;have hge:¬ (k:Int)<((n:Nat):Int):=ae;obtain rfl:n=k:=hk2.symm;go_upto_region 13 with fail
     have HB0:=ai hb;clear hb hz2;by_cases h1:(fV (aG n p) t m).1=mo
     ·have z1:=fj h1;have HB1_:=ai h1;clear h1;by_cases h2:qs (gY (de p (yq s)) n)=mo
      ·have z2:=fj h2;have HB2_:=ai h2;clear h2;have c0_3:=HB0_5.o.cell 3 rfl;go_wp2;go_ret;exact⟨by rw[oi,if_pos HFQ.o,if_neg (fun h=>h HB0.o),if_pos ⟨HB1_.o,HB2_.o⟩];rfl,HX5.o⟩
      ·have z2:=fh h2;have HB2_:=ai h2;clear h2;have c0_3:=HB0_5.o.cell 3 rfl;go_wp2;go_ret;exact⟨by rw[oi,if_pos HFQ.o,if_neg (fun h=>h HB0.o),if_neg (fun h=>HB2_.o h.2)];rfl,HX5.o⟩
     ·have z1:=fh h1;have HB1_:=ai h1;clear h1;by_cases h2:qs (gY (de p (yq s)) n)=mo
      ·have z2:=fj h2;have HB2_:=ai h2;clear h2;have c0_3:=HB0_5.o.cell 3 rfl;go_wp2;go_ret;exact⟨by rw[oi,if_pos HFQ.o,if_neg (fun h=>h HB0.o),if_neg (fun h=>HB1_.o h.1)];rfl,HX5.o⟩
      ·have z2:=fh h2;have HB2_:=ai h2;clear h2;have c0_3:=HB0_5.o.cell 3 rfl;go_wp2;go_ret;exact⟨by rw[oi,if_pos HFQ.o,if_neg (fun h=>h HB0.o),if_neg (fun h=>HB2_.o h.2)];rfl,HX5.o⟩
theorem sr(vo:Option Addr)(n cap:Nat)(p:Nat->V3)(w:World)(g:Gd w)(hl:k9 w vo n p)(hq:∀ i,i<n->bK (p i))(hn0:0<n)(hn:n<=60)(s:Nat->ByteArray)(mo:ByteArray)(da:Option Addr)(m dc:Nat)(hf:F7 s mo)(t:Nat->ByteArray)(hT:Rs w (.slice da m dc) m t)(hts:∀ i,i<m->(t i).size<=1000000)(hm:m<=1000000)(htq:yN t m 200)(hz:D8 (aG n p) (yq t)):Calls prog 36 #[.slice vo n cap,.agg #[.string (s 0),.string (s 1),.string (s 2),.string mo,.slice da m dc]] w (aD w (.int .i64 (oi n p s mo t m))):=by
 have HG:=ai g;have HL:=ai hl;have HQ:=ai hq;have HF:=ai hf;have HT:=ai hT;have HTS:=ai hts;have HTQ:=ai htq;have HZ:=ai hz;clear g hl hq hf hT hts htq hz;have HOK:=ai (uU HQ.o hn0 hn);go_enter func36,ntmps36;go_wp2_with fail;refine((HOK.o▸CS vo n cap (fun k=>vt (p k)) _ rfl _ (HG.o.ext (((Ext.refl w).alloc _))) (vF.ext HL.o ((Ext.refl w).alloc _)) (fun k hk=>rA (HQ.o k hk).vb af) ae)).mono ?_;rintro e w1 ⟨rfl,e1⟩;have HX1:Hid (Ext w w1):=ai (((Ext.refl w).alloc _).trans e1);have HB0_1:Hid (aq w1 (w.heap.size) (#[.string (s 0),.string (s 1),.string (s 2),.string mo,.slice da m dc]) 60):=ai (((aq.nw (#[.string (s 0),.string (s 1),.string (s 2),.string mo,.slice da m dc]) 60)).ext e1);have HGEB0:Hid (w.heap.size<=w.heap.size):=ai (Nat.le_refl _);clear e1;go_upto_region 4 with fail
 rcases AP s mo with⟨e_,r0_,te_⟩|⟨e_,r0_,r1_,te_⟩|⟨e_,r0_,r1_,r2_,te_⟩|⟨e_,r0_,r1_,r2_,r3_,te_⟩|⟨e_,r0_,r1_,r2_,r3_,te_⟩
 ·have HFQ:=ai e_;have HTE:=ai te_;have HR0:=ai r0_;clear e_ r0_ te_;have c0_0:=HB0_1.o.cell 0 rfl;go_wp2_with fail;refine cto (dV _ _ (HG.o.ext (HX1.o)) (HF.o.sz 0 af) HR0.o) fun w2 e2=>?_
  have HX2:=ai (HX1.o.trans e2);have HB0_2:=ai (HB0_1.o.ext e2);clear e2 c0_0;go_wp2;go_ret;exact⟨by rw[oi,if_neg (by rw[HFQ.o];decide)];rfl,HX2.o⟩
 ·have HFQ:=ai e_;have HTE:=ai te_;have HR0:=ai r0_;have HR1:=ai r1_;clear e_ r0_ r1_ te_;have c0_0:=HB0_1.o.cell 0 rfl;go_wp2_with fail;refine cto (a6 _ _ (HG.o.ext (HX1.o)) (HF.o.sz 0 af) HR0.o) fun w2 e2=>?_
  have HX2:=ai (HX1.o.trans e2);have HB0_2:=ai (HB0_1.o.ext e2);clear e2 c0_0;have c0_1:=HB0_2.o.cell 1 rfl;go_wp2_with fail;refine cto (dV _ _ (HG.o.ext (HX2.o)) (HF.o.sz 1 af) HR1.o) fun w3 e3=>?_
  have HX3:=ai (HX2.o.trans e3);have HB0_3:=ai (HB0_2.o.ext e3);clear e3 c0_1;go_wp2;go_ret;exact⟨by rw[oi,if_neg (by rw[HFQ.o];decide)];rfl,HX3.o⟩
 ·have HFQ:=ai e_;have HTE:=ai te_;have HR0:=ai r0_;have HR1:=ai r1_;have HR2:=ai r2_;clear e_ r0_ r1_ r2_ te_;have c0_0:=HB0_1.o.cell 0 rfl;go_wp2_with fail;refine cto (a6 _ _ (HG.o.ext (HX1.o)) (HF.o.sz 0 af) HR0.o) fun w2 e2=>?_
  have HX2:=ai (HX1.o.trans e2);have HB0_2:=ai (HB0_1.o.ext e2);clear e2 c0_0;have c0_1:=HB0_2.o.cell 1 rfl;go_wp2_with fail;refine cto (a6 _ _ (HG.o.ext (HX2.o)) (HF.o.sz 1 af) HR1.o) fun w3 e3=>?_
  have HX3:=ai (HX2.o.trans e3);have HB0_3:=ai (HB0_2.o.ext e3);clear e3 c0_1;have c0_2:=HB0_3.o.cell 2 rfl;go_wp2_with fail;refine cto (dV _ _ (HG.o.ext (HX3.o)) (HF.o.sz 2 af) HR2.o) fun w4 e4=>?_
  have HX4:=ai (HX3.o.trans e4);have HB0_4:=ai (HB0_3.o.ext e4);clear e4 c0_2;go_wp2;go_ret;exact⟨by rw[oi,if_neg (by rw[HFQ.o];decide)];rfl,HX4.o⟩
 ·have HFQ:=ai e_;have HTE:=ai te_;have HR0:=ai r0_;have HR1:=ai r1_;have HR2:=ai r2_;have HR3:=ai r3_;clear e_ r0_ r1_ r2_ r3_ te_;have c0_0:=HB0_1.o.cell 0 rfl;go_wp2_with fail;refine cto (a6 _ _ (HG.o.ext (HX1.o)) (HF.o.sz 0 af) HR0.o) fun w2 e2=>?_
  have HX2:=ai (HX1.o.trans e2);have HB0_2:=ai (HB0_1.o.ext e2);clear e2 c0_0;have c0_1:=HB0_2.o.cell 1 rfl;go_wp2_with fail;refine cto (a6 _ _ (HG.o.ext (HX2.o)) (HF.o.sz 1 af) HR1.o) fun w3 e3=>?_
  have HX3:=ai (HX2.o.trans e3);have HB0_3:=ai (HB0_2.o.ext e3);clear e3 c0_1;have c0_2:=HB0_3.o.cell 2 rfl;go_wp2_with fail;refine cto (a6 _ _ (HG.o.ext (HX3.o)) (HF.o.sz 2 af) HR2.o) fun w4 e4=>?_
  have HX4:=ai (HX3.o.trans e4);have HB0_4:=ai (HB0_3.o.ext e4);clear e4 c0_2;have c0_3:=HB0_4.o.cell 3 rfl;go_wp2_with fail;refine cto (dV _ _ (HG.o.ext (HX4.o)) HF.o.mo HR3.o) fun w5 e5=>?_
  have HX5:=ai (HX4.o.trans e5);have HB0_5:=ai (HB0_4.o.ext e5);clear e5 c0_3;go_wp2;go_ret;exact⟨by rw[oi,if_neg (by rw[HFQ.o];decide)];rfl,HX5.o⟩
 ·have HFQ:=ai e_;have HTE:=ai te_;have HR0:=ai r0_;have HR1:=ai r1_;have HR2:=ai r2_;have HR3:=ai r3_;clear e_ r0_ r1_ r2_ r3_ te_;have c0_0:=HB0_1.o.cell 0 rfl;go_wp2_with fail;refine cto (a6 _ _ (HG.o.ext (HX1.o)) (HF.o.sz 0 af) HR0.o) fun w2 e2=>?_
  have HX2:=ai (HX1.o.trans e2);have HB0_2:=ai (HB0_1.o.ext e2);clear e2 c0_0;have c0_1:=HB0_2.o.cell 1 rfl;go_wp2_with fail;refine cto (a6 _ _ (HG.o.ext (HX2.o)) (HF.o.sz 1 af) HR1.o) fun w3 e3=>?_
  have HX3:=ai (HX2.o.trans e3);have HB0_3:=ai (HB0_2.o.ext e3);clear e3 c0_1;have c0_2:=HB0_3.o.cell 2 rfl;go_wp2_with fail;refine cto (a6 _ _ (HG.o.ext (HX3.o)) (HF.o.sz 2 af) HR2.o) fun w4 e4=>?_
  have HX4:=ai (HX3.o.trans e4);have HB0_4:=ai (HB0_3.o.ext e4);clear e4 c0_2;have c0_3:=HB0_4.o.cell 3 rfl;go_wp2_with fail;refine cto (a6 _ _ (HG.o.ext (HX4.o)) HF.o.mo HR3.o) fun w5 e5=>?_
  have HX5:=ai (HX4.o.trans e5);have HB0_5:=ai (HB0_4.o.ext e5);clear e5 c0_3;go_wp2_with fail;go_wp2_with fail;refine ay [.val (.slice vo n cap),.aR,.val (.pointer (some ⟨w.heap.size,4,none⟩)),.val (.agg #[.slice da m dc]),.ev (.tuple #[.string ((fV (aG n p) t m).1),.int .i64 ((fV (aG n p) t m).2)]),.val (.tuple #[.string ((fV (aG n p) t m).1),.int .i64 ((fV (aG n p) t m).2)]),.val (.string ((fV (aG n p) t m).1)),.val (.int .i64 ((fV (aG n p) t m).2)),.val (.string ((fV (aG n p) t m).1)),.val (.int .i64 ((fV (aG n p) t m).2))] (fun L g W=>L 1=true->∃ vr vc va,g 1 = .agg #[.int .i64 4,vr,vc]/\PM (aG n p) W vr vc va) (S:=fun _=>False) ag ag ag (Mv.refl HX5.o (fun k h=>h.elim)) ?_ ?_ ?_ ?_ (fun gv_ w6 hm_ he_=>?_)
  ·exact fun g h=>absurd h af
  ·exact fun L g W W1 h e a=>let ⟨b,x,y,z,u⟩:=h a;⟨b,x,y,z,u.ext e⟩
  ·intro i v L g W hi h;have n1_:i≠1:=fun e=>by subst e;exact absurd (show false=true from hi) af
   have n4_:i≠4:=fun e=>by subst e;exact absurd (show false=true from hi) af
   simp only[au n1_,av n1_,au n4_,av n4_];exact h
  ·skip
   refine RI 0 (.slice vo n cap) ?_;refine aA.cons (fun L_ g_ A_ W_ hs_=>?_) ?_
   ·have q38_:=hs_.val 0;refine cI.aR fun K_ hK_=>?_;have n1_:=hs_.not;have e_:=hs_.e;simp only[n1_,aj,if_false,if_true] at e_;clear n1_;have HE_:=ai e_;have HM_:=ai hs_.mv;clear e_;go_simp;refine(CQ vo n cap p _ (HG.o.ext HM_.o.ext) (HL.o.ext HM_.o.ext) (fun i hi=>(HQ.o i hi).vb) hn).mono ?_;rintro e W9_ ⟨vr_,vc_,va_,he9_,e9_,pm_⟩;replace he9_:e = .returned (.agg #[.int .i64 4,vr_,vc_]):=he9_;subst he9_;exact hK_.o _ W9_ (HM_.o.trans e9_) (by simp only[aM,bu,aj,if_false,if_true];exact fun _=>⟨vr_,vc_,va_,rfl,pm_⟩)
   refine RI 3 (.pointer (some ⟨w.heap.size,0,none⟩))<|J2 (fun hs_=>hs_.val 2) (fun hs_=>(hs_.mv.az HB0_5.o (fun h=>h)).cell 4 rfl) ?_;refine aA.cons (fun L_ g_ A_ W_ hs_=>?_) ?_
   ·have q39_:=hs_.aR 1;have q41_:=hs_.val 3;refine cI.ev fun K_ hK_=>?_;obtain⟨vr_,vc_,va_,g_eq,pm_⟩:=hs_.e (hs_.yes 1 ag);rw[g_eq] at q39_;have HG_:=ai g_eq;have HP_:=ai pm_;have HM_:=ai hs_.mv;clear g_eq pm_;go_simp;refine(s9 (HG.o.ext HM_.o.ext) HP_.o HQ.o hn (HT.o.ext HM_.o.ext) HTS.o hm HTQ.o HZ.o).mono ?_;rintro e W9_ ⟨rfl,e9_⟩;exact hK_.o _ (HM_.o.trans e9_) (by simp only[au (show(4:Nat)≠1 by decide),av (show(4:Nat)≠1 by decide)];exact fun _=>⟨vr_,vc_,va_,HG_.o,HP_.o.ext e9_⟩)
   exact J1 (fun hs_=>hs_.ev 4)<|R1 5<|R1 5<|R1 6<|R1 7<|aA.nil
  simp only[dD,Ke.value,aX,Act.put,List.setIfInBounds_toArray,List.set_cons_zero,List.set_cons_succ,Nat.reduceAdd];have HX6:Hid (Ext w w6):=ai hm_.ext;have HB0_6:=ai (hm_.az HB0_5.o (fun h=>h));clear hm_ he_;go_upto_region 7 with fail
  by_cases hb:(fV (aG n p) t m).2≠0
  ·have hz2:¬ (fV (aG n p) t m).2=0:=hb;go_wp2;go_ret;exact⟨by rw[oi,if_pos HFQ.o,if_pos hb];rfl,HX6.o⟩
  ·have hb:=Classical.not_not.1 hb;have hz2:(fV (aG n p) t m).2=0:=hb;go_upto_region 9 with fail
   have HB0:=ai hb;clear hb hz2;by_cases h1:(fV (aG n p) t m).1=mo
   ·have z1:=fj h1;have HB1_:=ai h1;clear h1;by_cases h2:qs (gY (de p (yq s)) n)=mo
    ·have z2:=fj h2;have HB2_:=ai h2;clear h2;go_wp2_with fail;go_wp2_with fail;refine ay [.val (.string ((fV (aG n p) t m).1)),.val (.pointer (some ⟨w.heap.size,3,none⟩)),.val (.string mo),.val (.bool false),.val (.bool false),.val (.slice vo n cap),.val (.agg #[.string (s 0),.string (s 1),.string (s 2),.string mo,.slice da m dc]),.aR,.ev (.string (qs (gY (de p (yq s)) n))),.val (.pointer (some ⟨w.heap.size,3,none⟩)),.val (.string mo),.val (.bool false),.val (.bool false)] (fun L g W=>L 7=true->∃ la lc,g 7 = .slice la n lc/\∀ i,i<n->∃ a,la=some a/\W.cell? (a.add i)=some (.string (qs (de p (yq s) i)))) (S:=fun _=>False) ag ag ag (Mv.refl HX6.o (fun k h=>h.elim)) ?_ ?_ ?_ ?_ (fun gv_ w7 hm_ he_=>?_)
     ·exact fun g h=>absurd h af
     ·exact fun L g W W1 h e a=>let ⟨b,x,y,z⟩:=h a;⟨b,x,y,fun i hi=>let ⟨a,h1,h2⟩:=z i hi;⟨a,h1,ax e h2⟩⟩
     ·intro i v L g W hi h;have n7_:i≠7:=fun e=>by subst e;exact absurd (show false=true from hi) af
      have n8_:i≠8:=fun e=>by subst e;exact absurd (show false=true from hi) af
      simp only[au n7_,av n7_,au n8_,av n8_];exact h
     ·skip
      refine RI 6 (.string ((fV (aG n p) t m).1))<|RI 3 (.pointer (some ⟨w.heap.size,0,none⟩))<|J2 (fun hs_=>hs_.val 1) (fun hs_=>(hs_.mv.az HB0_6.o (fun h=>h)).cell 3 rfl)<|R2 0 2<|R1 3<|RI 0 (.slice vo n cap) ?_;refine RV (fun A_ hs_ K_ hK_=>?_) ?_;· have q3_:=hs_.is 3 (.pointer (some ⟨w.heap.size,0,none⟩));have c0_0:=(hs_.mv.az HB0_6.o (fun h=>h)).cell 0 rfl;have c0_1:=(hs_.mv.az HB0_6.o (fun h=>h)).cell 1 rfl;have c0_2:=(hs_.mv.az HB0_6.o (fun h=>h)).cell 2 rfl;have c0_3:=(hs_.mv.az HB0_6.o (fun h=>h)).cell 3 rfl;have c0_4:=(hs_.mv.az HB0_6.o (fun h=>h)).cell 4 rfl;go_simp;exact bY hK_
      refine aA.cons (fun L_ g_ A_ W_ hs_=>?_) ?_
      ·have q53_:=hs_.val 5;have q54_:=hs_.val 6;refine cI.aR fun K_ hK_=>?_;have n7_:=hs_.not;have e_:=hs_.e;simp only[n7_,aj,if_false,if_true] at e_;clear n7_;have HE_:=ai e_;have HM_:=ai hs_.mv;clear e_;go_simp;refine(sw (HG.o.ext HM_.o.ext) (HL.o.ext HM_.o.ext) (fun i hi=>(HQ.o i hi).vb) hn (HF.o.x6 HR0.o HR1.o HR2.o)).mono ?_;rintro e W9_ ⟨v_,rfl,e9_,ol_⟩;obtain⟨la_,lc_,rfl⟩:=ol_.uG;obtain⟨_,_,el_,_,_,hc_⟩:=ol_.rd;cases el_;exact hK_.o _ W9_ (HM_.o.trans e9_) (by simp only[aM,bu,aj,if_false,if_true];exact fun _=>⟨la_,lc_,rfl,hc_⟩)
      refine aA.cons (fun L_ g_ A_ W_ hs_=>?_) ?_
      ·have q55_:=hs_.aR 7;refine cI.ev fun K_ hK_=>?_;obtain⟨la_,lc_,g_eq,hc_⟩:=hs_.e (hs_.yes 7 ag);rw[g_eq] at q55_;have HG_:=ai g_eq;have HC_:=ai hc_;have HM_:=ai hs_.mv;clear g_eq hc_;go_simp;refine(wE la_ n lc_ (de p (yq s)) _ (HG.o.ext HM_.o.ext) HC_.o (fun i hi=>qN (HQ.o i hi).vb (fun j hj=>(HF.o.x6 HR0.o HR1.o HR2.o j hj).2)) ae).mono ?_;rintro e W9_ ⟨rfl,e9_⟩;exact hK_.o _ (HM_.o.trans e9_) (by simp only[au (show(8:Nat)≠7 by decide),av (show(8:Nat)≠7 by decide)];exact fun _=>⟨la_,lc_,HG_.o,fun i hi=>let ⟨a,h1,h2⟩:=HC_.o i hi;⟨a,h1,ax e9_ h2⟩⟩)
      exact RI 3 (.pointer (some ⟨w.heap.size,0,none⟩))<|J2 (fun hs_=>hs_.val 9) (fun hs_=>(hs_.mv.az HB0_6.o (fun h=>h)).cell 3 rfl)<|J2 (fun hs_=>hs_.ev 8) (fun hs_=>hs_.val 10)<|R2 4 11<|aA.nil
     simp only[dD,Ke.value,aX,Act.put,List.setIfInBounds_toArray,List.set_cons_zero,List.set_cons_succ,Nat.reduceAdd];have HX7:Hid (Ext w w7):=ai hm_.ext;clear hm_ he_;go_wp2;go_ret;exact⟨by rw[oi,if_pos HFQ.o,if_neg (fun h=>h HB0.o),if_pos ⟨HB1_.o,HB2_.o⟩];rfl,HX7.o⟩
    ·have z2:=fh h2;have HB2_:=ai h2;clear h2;go_wp2_with fail;go_wp2_with fail;refine ay [.val (.string ((fV (aG n p) t m).1)),.val (.pointer (some ⟨w.heap.size,3,none⟩)),.val (.string mo),.val (.bool false),.val (.bool false),.val (.slice vo n cap),.val (.agg #[.string (s 0),.string (s 1),.string (s 2),.string mo,.slice da m dc]),.aR,.ev (.string (qs (gY (de p (yq s)) n))),.val (.pointer (some ⟨w.heap.size,3,none⟩)),.val (.string mo),.val (.bool true),.val (.bool true)] (fun L g W=>L 7=true->∃ la lc,g 7 = .slice la n lc/\∀ i,i<n->∃ a,la=some a/\W.cell? (a.add i)=some (.string (qs (de p (yq s) i)))) (S:=fun _=>False) ag ag ag (Mv.refl HX6.o (fun k h=>h.elim)) ?_ ?_ ?_ ?_ (fun gv_ w7 hm_ he_=>?_)
     ·exact fun g h=>absurd h af
     ·exact fun L g W W1 h e a=>let ⟨b,x,y,z⟩:=h a;⟨b,x,y,fun i hi=>let ⟨a,h1,h2⟩:=z i hi;⟨a,h1,ax e h2⟩⟩
     ·intro i v L g W hi h;have n7_:i≠7:=fun e=>by subst e;exact absurd (show false=true from hi) af
      have n8_:i≠8:=fun e=>by subst e;exact absurd (show false=true from hi) af
      simp only[au n7_,av n7_,au n8_,av n8_];exact h
     ·skip
      refine RI 6 (.string ((fV (aG n p) t m).1))<|RI 3 (.pointer (some ⟨w.heap.size,0,none⟩))<|J2 (fun hs_=>hs_.val 1) (fun hs_=>(hs_.mv.az HB0_6.o (fun h=>h)).cell 3 rfl)<|R2 0 2<|R1 3<|RI 0 (.slice vo n cap) ?_;refine RV (fun A_ hs_ K_ hK_=>?_) ?_;· have q3_:=hs_.is 3 (.pointer (some ⟨w.heap.size,0,none⟩));have c0_0:=(hs_.mv.az HB0_6.o (fun h=>h)).cell 0 rfl;have c0_1:=(hs_.mv.az HB0_6.o (fun h=>h)).cell 1 rfl;have c0_2:=(hs_.mv.az HB0_6.o (fun h=>h)).cell 2 rfl;have c0_3:=(hs_.mv.az HB0_6.o (fun h=>h)).cell 3 rfl;have c0_4:=(hs_.mv.az HB0_6.o (fun h=>h)).cell 4 rfl;go_simp;exact bY hK_
      refine aA.cons (fun L_ g_ A_ W_ hs_=>?_) ?_
      ·have q53_:=hs_.val 5;have q54_:=hs_.val 6;refine cI.aR fun K_ hK_=>?_;have n7_:=hs_.not;have e_:=hs_.e;simp only[n7_,aj,if_false,if_true] at e_;clear n7_;have HE_:=ai e_;have HM_:=ai hs_.mv;clear e_;go_simp;refine(sw (HG.o.ext HM_.o.ext) (HL.o.ext HM_.o.ext) (fun i hi=>(HQ.o i hi).vb) hn (HF.o.x6 HR0.o HR1.o HR2.o)).mono ?_;rintro e W9_ ⟨v_,rfl,e9_,ol_⟩;obtain⟨la_,lc_,rfl⟩:=ol_.uG;obtain⟨_,_,el_,_,_,hc_⟩:=ol_.rd;cases el_;exact hK_.o _ W9_ (HM_.o.trans e9_) (by simp only[aM,bu,aj,if_false,if_true];exact fun _=>⟨la_,lc_,rfl,hc_⟩)
      refine aA.cons (fun L_ g_ A_ W_ hs_=>?_) ?_
      ·have q55_:=hs_.aR 7;refine cI.ev fun K_ hK_=>?_;obtain⟨la_,lc_,g_eq,hc_⟩:=hs_.e (hs_.yes 7 ag);rw[g_eq] at q55_;have HG_:=ai g_eq;have HC_:=ai hc_;have HM_:=ai hs_.mv;clear g_eq hc_;go_simp;refine(wE la_ n lc_ (de p (yq s)) _ (HG.o.ext HM_.o.ext) HC_.o (fun i hi=>qN (HQ.o i hi).vb (fun j hj=>(HF.o.x6 HR0.o HR1.o HR2.o j hj).2)) ae).mono ?_;rintro e W9_ ⟨rfl,e9_⟩;exact hK_.o _ (HM_.o.trans e9_) (by simp only[au (show(8:Nat)≠7 by decide),av (show(8:Nat)≠7 by decide)];exact fun _=>⟨la_,lc_,HG_.o,fun i hi=>let ⟨a,h1,h2⟩:=HC_.o i hi;⟨a,h1,ax e9_ h2⟩⟩)
      exact RI 3 (.pointer (some ⟨w.heap.size,0,none⟩))<|J2 (fun hs_=>hs_.val 9) (fun hs_=>(hs_.mv.az HB0_6.o (fun h=>h)).cell 3 rfl)<|J2 (fun hs_=>hs_.ev 8) (fun hs_=>hs_.val 10)<|R2 4 11<|aA.nil
     simp only[dD,Ke.value,aX,Act.put,List.setIfInBounds_toArray,List.set_cons_zero,List.set_cons_succ,Nat.reduceAdd];have HX7:Hid (Ext w w7):=ai hm_.ext;clear hm_ he_;go_wp2;go_ret;exact⟨by rw[oi,if_pos HFQ.o,if_neg (fun h=>h HB0.o),if_neg (fun h=>HB2_.o h.2)];rfl,HX7.o⟩
   ·have z1:=fh h1;have HB1_:=ai h1;clear h1;go_wp2_with fail;go_wp2_with fail;refine ay [.val (.string ((fV (aG n p) t m).1)),.val (.pointer (some ⟨w.heap.size,3,none⟩)),.val (.string mo),.val (.bool true),.val (.bool true),.off,.off,.off,.off,.off,.off,.off,.val (.bool true)] (fun L g W=>True) (S:=fun _=>False) ag ag ag (Mv.refl HX6.o (fun k h=>h.elim)) ?_ ?_ ?_ ?_ (fun gv_ w7 hm_ he_=>?_)
    ·exact fun _=>trivial
    ·exact fun _ _ _ _ h _=>h
    ·exact fun _ _ _ _ _ _ h=>h
    ·skip
     exact RI 6 (.string ((fV (aG n p) t m).1))<|RI 3 (.pointer (some ⟨w.heap.size,0,none⟩))<|J2 (fun hs_=>hs_.val 1) (fun hs_=>(hs_.mv.az HB0_6.o (fun h=>h)).cell 3 rfl)<|R2 0 2<|R1 3<|RO<|RO<|RO<|RO<|RO<|RO<|RO<|J2 (fun hs_=>hs_.val 4) (fun hs_=>hs_.un 11)<|aA.nil
    simp only[dD,Ke.value,aX,Act.put,List.setIfInBounds_toArray,List.set_cons_zero,List.set_cons_succ];have HX7:Hid (Ext w w7):=ai hm_.ext;clear hm_ he_;go_wp2;go_ret;exact⟨by rw[oi,if_pos HFQ.o,if_neg (fun h=>h HB0.o),if_neg (fun h=>HB1_.o h.1)];rfl,HX7.o⟩
def F4(w:World)(wo:Option Addr)(m:Nat)(c:Nat->Nat->Int):Prop:=∀ i,i<m->∃ wa o,wo=some ⟨wa,o,none⟩/\∀ j,j<3->w.cell? ⟨wa,o+i*3+j,none⟩=some (.int .i8 (c i j))
theorem F4.ext{w w':World}{wo:Option Addr}{m:Nat}{c:Nat->Nat->Int}(h:F4 w wo m c)(e:Ext w w'):F4 w' wo m c:=fun i hi=>let ⟨wa,o,a,b⟩:=h i hi;⟨wa,o,a,fun j hj=>ax e (b j hj)⟩
def rp(c:Nat->Nat->Int)(i:Nat):V3:=og (c i 0) (c i 1) (c i 2)
theorem gC(c:Nat->Nat->Int)(i:Nat):bK (rp c i):=⟨⟨_,rfl,kF _⟩,⟨_,rfl,kF _⟩,⟨_,rfl,kF _⟩⟩
def h3(a0 a1 a2:Value)(i:Nat):Value:=if i=0 then a0 else if i=1 then a1 else a2
def vG(p:Nat->V3)(i:Nat):Value:=h3 (.string (qs (p (i / 3)).x)) (.string (qs (p (i / 3)).y)) (.string (qs (p (i / 3)).z)) (i % 3)
section
variable {X w W w':World} {b n:Nat} {p:Nat->V3} {v v':Value}
theorem Hf{t:TypeId}{a0 a1 a2:Value}(h:aq w b #[a0,a1,a2] t):∀ j,j<1*3->w.cell? ((⟨b,0,none⟩:Addr).add j)=some (h3 a0 a1 a2 j):=fun j hj=>by
 rcases (by omega:j=0∨j=1∨j=2) with rfl|rfl|rfl <;> exact eR h rfl
theorem Hn{a b c:ByteArray}:∀ j,j<1*3->(h3 (.string a) (.string b) (.string c) j).oneCell'=true:=fun j hj=>by
 rcases (by omega:j=0∨j=1∨j=2) with rfl|rfl|rfl <;> rfl
theorem BJ(h:App X w 67 3 v n 1 (vG p) (h3 (.string (qs (p n).x)) (.string (qs (p n).y)) (.string (qs (p n).z))) v' w'):bB X w' 67 3 v' (n+1) (vG p) :=
 h.own.congr fun i hi=>by
  by_cases h1:i<n*3
  ·rw[fm h1]
  ·rw[dO h1,vG,show i / 3=n by omega,show i % 3=i-n*3 by omega]
theorem EW(h:bB X w 67 3 v n (vG p)):∃ ao cap,v = .slice ao n cap/\n<=cap/\k9 w ao n p:=by
 rcases h with⟨rfl,rfl⟩|⟨k,cap,C,rfl,_,hB,hcp,_,_,hc⟩
 ·exact⟨none,0,rfl,Nat.le_refl _,fun i hi=>absurd hi (Nat.not_lt_zero i)⟩
 ·refine⟨_,cap,rfl,hcp,fun i hi=>⟨k,0,rfl,?_,?_,?_⟩⟩
  ·have:=hB.cell (0+i*3) (hc _ ae);rwa[vG,show(0+i*3) / 3=i by omega,show(0+i*3) % 3=0 by omega] at this
  ·have:=hB.cell (0+i*3+1) (hc _ ae);rwa[vG,show(0+i*3+1) / 3=i by omega,show(0+i*3+1) % 3=1 by omega] at this
  ·have:=hB.cell (0+i*3+2) (hc _ ae);rwa[vG,show(0+i*3+2) / 3=i by omega,show(0+i*3+2) % 3=2 by omega] at this
theorem BR:prog.underlying 55=some (.slice 67):=ag
theorem Fo:(prog.info? 67).map (fun i=>(i.zero,i.size,i.bytes))=some (some (.agg #[.string ⟨#[]⟩,.string ⟨#[]⟩,.string ⟨#[]⟩]),3,48):=ag
end
def IA(n:Nat)(p:Nat->V3)(w:World)(e:Ending)(w':World):Prop:=∃ ao cap,e = .returned (.slice ao n cap)/\Ext w w'/\n<=cap/\k9 w' ao n p
theorem yd(wo:Option Addr)(m wcap:Nat)(c:Nat->Nat->Int)(w:World)(g:Gd w)(hw:F4 w wo m c)(hc:∀ i j,-128<=c i j/\c i j<=127)(hm:m<=5):Calls prog 25 #[.slice wo m wcap] w (IA m (rp c) w):=by
 have HG:=ai g;have HW:=ai hw;have HC:=ai hc;clear g hw hc;go_enter func25,ntmps25;go_wp2_with fail;have HOL_0:Hid (bB w w 67 3 (.slice none 0 0) 0 (vG (rp c))):=ai (bB.nil _ _ _ _ _);go_wp2_with fail;go_loopw [4,3] (fun x0_ x1_ wx=>∃ k:Nat,∃ la:Option Addr,∃ ln:Nat,∃ lc:Nat,x0_ = .int .i64 k/\x1_ = .slice la ln lc/\k<=m/\Hid (Ext w wx/\bB w wx 67 3 (.slice la ln lc) k (vG (rp c)))) (fun x0_ _ _=>m-(intOf x0_).toNat)
 case atStart=>exact⟨0,none,0,0,rfl,rfl,Nat.zero_le _,ai ⟨(Ext.refl w),HOL_0.o⟩⟩
 case round =>
  rename World=>w1
  obtain⟨k,la,ln,lc,rfl,rfl,hkk,HH⟩:=hrel;have HX1:=ai HH.o.1;have HOL_1:=ai HH.o.2;clear HH;by_cases hlt:k<m
  ·have hlt2:(k:Int)<((m:Nat):Int):=ae;obtain⟨wa,o_,rfl,zw_⟩:=HW.o k hlt;have z0_:=zw_ 0 af;rw[Nat.add_zero] at z0_;have z1_:=zw_ 1 af;have z2_:=zw_ 2 af;have HC0:=ai z0_;have HC1:=ai z1_;have HC2:=ai z2_;clear zw_ z0_ z1_ z2_;have hk5:(k:Int)<5:=ae;have cw_o____k___3:=ax HX1.o (HC0.o);have cw_o____k___3___1:=ax HX1.o (HC1.o);have cw_o____k___3___2:=ax HX1.o (HC2.o);go_wp2_with fail;refine cto (Al (c k 0) (c k 1) (c k 2) _ (HG.o.ext (HX1.o)) (HC.o k 0) (HC.o k 1) (HC.o k 2)) fun w2 e2=>?_
   have HX2:=ai (HX1.o.trans e2);have HOL_2:=ai (HOL_1.o.ext e2);clear e2 cw_o____k___3 cw_o____k___3___1 cw_o____k___3___2;go_wp2_with (
    at_builtin;refine wpList_plain rfl fun K_ hK_=>fL (X:=w) (H:=(h3 (.string (qs ((rp c k).x))) (.string (qs ((rp c k).y))) (.string (qs ((rp c k).z))))) (ad:=⟨w2.heap.size,0,none⟩) (m:=1) (c:=1) (v:=.slice la ln lc) rfl rfl rfl BR Fo rfl (HX2.o.alloc _) (HOL_2.o.alloc _) (fun _=>af) (Hf (aq.nw (#[.string (qs ((rp c k).x)),.string (qs ((rp c k).y)),.string (qs ((rp c k).z))]) 67)) Hn (by unfold maxLen;omega) ae (fun a3_ n3_ c3_ w3 hA_=>hK_ _ _ ?_)
    have HX3:Hid (Ext w w3):=ai hA_.mv.ext;have HOL_3:Hid (bB w w3 67 3 (.slice a3_ n3_ c3_) (k+1) (vG (rp c))):=ai (BJ hA_);clear hA_
   )
   go_roundw
   case rel=>exact⟨k+1,_,_,_,by go_num,rfl,ae,ai ⟨HX3.o,HOL_3.o⟩⟩
   case measure=>simp[intOf];omega
  ·have hk2:k=m:=ae;have hge:¬ (k:Int)<((m:Nat):Int):=ae;have ho_:=(hk2▸HOL_1.o:bB w w1 67 3 (.slice la ln lc) m (vG (rp c)))
   obtain⟨ao,cap,ev_,hnc_,hv_⟩:=EW ho_;cases ev_;have HVQ:=ai hv_;clear hv_ ho_;go_wp2;go_ret;exact⟨_,_,rfl,HX1.o,hnc_,HVQ.o⟩
structure IV(K:Nat)(v:V3):Prop where
 x:ZB K v.x
 y:ZB K v.y
 z:ZB K v.z
def fP(v:V3):Prop:=¬ (v.x=0/\v.y=0/\v.z=0)
theorem nk{q:Rat}(h:jJ q):ZB 9 q:=by obtain⟨a,rfl,h1,h2⟩:=h;exact⟨a,rfl,ae⟩
theorem bK.iv{v:V3}(h:bK v):IV 9 v:=⟨nk h.x,nk h.y,nk h.z⟩
theorem ZB.q{K k:Nat}{q:Rat}(h:ZB K q)(hK:K<10 ^ k)(hk:1<=k):QB k q:=by obtain⟨a,rfl,h⟩:=h;exact QB.int ⟨ae⟩ hk
theorem IV.vb{K k:Nat}{v:V3}(h:IV K v)(hK:K<10 ^ k)(hk:1<=k):VB k v:=⟨h.x.q hK hk,h.y.q hK hk,h.z.q hK hk⟩
theorem IV.ints{K:Nat}{v:V3}(h:IV K v):∃ a b c:Int,v=⟨(a:Rat),(b:Rat),(c:Rat)⟩/\a.natAbs<=K/\b.natAbs<=K/\c.natAbs<=K:=by
 obtain⟨⟨a,ha,h1⟩,⟨b,hb,h2⟩,⟨c,hc,h3⟩⟩:=h;exact⟨a,b,c,by cases v;simp only at ha hb hc;rw[ha,hb,hc],h1,h2,h3⟩
theorem pJ{K g:Nat}{a:Int}(hg:g≠0)(h:(g:Int)∣a)(ha:a.natAbs<=K):ZB K ((a:Rat)*mkRat 1 g)/\((a:Rat)*mkRat 1 g=0->a=0):=by
 obtain⟨e,rfl⟩:=h;have hg':((g:Int):Rat)≠0:=fun h=>hg (by have:=Rat.intCast_eq_zero_iff.1 h;omega)
 have:(((g:Int)*e:Int):Rat)*mkRat 1 g=(e:Rat):=by
  rw[Rat.mkRat_eq_div,Rat.intCast_mul,← Rat.intCast_natCast];grind
 rw[this];refine⟨⟨e,rfl,?_⟩,fun h=>?_⟩
 ·rw[Int.natAbs_mul] at ha;exact Nat.le_trans (Nat.le_mul_of_pos_left _ ae) ha
 ·have:e=0:=Rat.intCast_inj.1 h;rw[this];simp
theorem qJ{K:Nat}{v:V3}(h:IV K v)(hz:fP v):aC v=v/\gp v≠0/\IV K (aB v)/\fP (aB v):=by
 obtain⟨a,b,c,rfl,h1,h2,h3⟩:=h.ints;have hw:aC ⟨(a:Rat),(b:Rat),(c:Rat)⟩=⟨(a:Rat),(b:Rat),(c:Rat)⟩:=by
  have:nh ⟨(a:Rat),(b:Rat),(c:Rat)⟩=1:=by simp[nh,r9,sd,z7]
  simp only[aC,this];simp
 have hg:gp ⟨(a:Rat),(b:Rat),(c:Rat)⟩=Int.gcd (Int.gcd (Int.gcd 0 a) b) c:=by simp[gp,Cq,Cr]
 have g0:gp ⟨(a:Rat),(b:Rat),(c:Rat)⟩≠0:=fun e=>hz (by
  rw[hg] at e;obtain⟨e1,e2⟩:=Int.gcd_eq_zero_iff.1 e;obtain⟨e3,e4⟩:=Int.gcd_eq_zero_iff.1 (by simpa using e1:Int.gcd (Int.gcd 0 a) b=0);obtain⟨_,e5⟩:=Int.gcd_eq_zero_iff.1 (by simpa using e3:Int.gcd 0 a=0);subst e2 e4 e5;exact⟨rfl,rfl,rfl⟩)
 have d3:((gp ⟨(a:Rat),(b:Rat),(c:Rat)⟩:Nat):Int)∣c:=by rw[hg];exact Int.gcd_dvd_right ..
 have d12:((gp ⟨(a:Rat),(b:Rat),(c:Rat)⟩:Nat):Int)∣(Int.gcd (Int.gcd 0 a) b:Int):=by rw[hg];exact Int.gcd_dvd_left ..
 have d2:=Int.dvd_trans d12 (Int.gcd_dvd_right (Int.gcd 0 a:Int) b);have d1:=Int.dvd_trans (Int.dvd_trans d12 (Int.gcd_dvd_left (Int.gcd 0 a:Int) b)) (Int.gcd_dvd_right 0 a);have p1:=pJ g0 d1 h1;have p2:=pJ g0 d2 h2;have p3:=pJ g0 d3 h3;refine⟨hw,g0,?_,?_⟩
 ·simp only[aB,hw];exact⟨p1.1,p2.1,p3.1⟩
 ·intro h0;simp only[aB,hw] at h0;exact hz (by rw[p1.2 h0.1,p2.2 h0.2.1,p3.2 h0.2.2];exact⟨rfl,rfl,rfl⟩)
theorem vV(x:Rat):0<=x*x:=by
 rcases Rat.le_total (a:=0) (b:=x) with h|h
 ·exact Rat.mul_nonneg h h
 ·have:=Rat.mul_nonneg (a:=-x) (b:=-x) (by grind) (by grind);grind
theorem sq_pos{x:Rat}(h:x≠0):0<x*x:=by
 have:=vV x;have:x*x≠0:=fun e=>(Rat.mul_eq_zero.1 e).elim h h
 grind
theorem xe{v:V3}(h:fP v):0<cv v v:=by
 unfold cv;have a:=vV v.x;have b:=vV v.y;have c:=vV v.z;by_cases hx:v.x=0
 ·by_cases hy:v.y=0
  ·have:=sq_pos (x:=v.z) (fun e=>h ⟨hx,hy,e⟩);grind
  ·have:=sq_pos hy;grind
 ·have:=sq_pos hx;grind
def eW(a n:V3):Rat:=cv a n*cv a n / (cv a a*cv n n)
def cO(a b:V3):V3:=⟨a.y*b.z-a.z*b.y,a.z*b.x-a.x*b.z,a.x*b.y-a.y*b.x⟩
theorem Bb{a n:V3}(ha:fP a)(hn:fP n):cv a a*cv n n≠0:=fun e=>by
 have h1:=xe ha;have h2:=xe hn;rcases Rat.mul_eq_zero.1 e with h|h <;> grind
theorem q5{A B:Nat}{a b:V3}(ha:IV A a)(hb:IV B b):ZB (A*B+A*B+A*B) (cv a b):=((ha.x.mul hb.x).add (ha.y.mul hb.y)).add (ha.z.mul hb.z)
theorem qO{a n:V3}(ha:IV 162 a)(hn:IV 9 n)(h1:fP a)(h2:fP n):QB 8 (eW a n):=by
 have e:=Bb h1 h2;refine ZB.qb (D:=cv a a*cv n n) (G:=19131876) e (((q5 ha ha).mul (q5 hn hn)).mono af) ?_ af;have:cv a a*cv n n*eW a n=cv a n*cv a n:=by unfold eW;grind
 rw[this];exact((q5 ha hn).mul (q5 ha hn)).mono af
theorem zh{n:Nat}{g:Nat->Rat}(h:∀ i,i<n->QB 8 (g i)):∀ k,k<=n->QB (1+k*9) (aH k g)
 | 0,_=>(QB.int (n:=0) (k:=1) ⟨af⟩ af).mono af
 | k+1,hk=>((zh h k ae).add (h k ae)).mono ae
def eO(p:V3):V3:=if 0<p.z∨p.z=0/\(p.y<0∨p.y=0/\p.x<0) then⟨-p.x,-p.y,-p.z⟩ else p
theorem FF{K:Nat}{p:V3}(h:IV K p)(hz:fP p):IV K (eO p)/\fP (eO p):=by
 unfold eO;split
 ·exact⟨⟨h.x.neg,h.y.neg,h.z.neg⟩,fun e=>hz ⟨by have:=e.1;grind,by have:=e.2.1;grind,by have:=e.2.2;grind⟩⟩
 ·exact⟨h,hz⟩
theorem Bg{a b:V3}(ha:IV 9 a)(hb:IV 9 b):IV 162 (cO a b):=by
 have m:∀ {p q r s:Rat},ZB 9 p->ZB 9 q->ZB 9 r->ZB 9 s->ZB 162 (p*q-r*s):=fun hp hq hr hs=>by
  rw[Rat.sub_eq_add_neg];exact((hp.mul hq).add (hr.mul hs).neg).mono af
 exact⟨m ha.y hb.z ha.z hb.y,m ha.z hb.x ha.x hb.z,m ha.x hb.y ha.y hb.x⟩
end Go.Proofs.YtmahadmefplbnaaGreatDoor
