/- Part 35. -/
import Derived.Test.YtmahadmefplbnaaGreatDoorQTDB
import Derived.Test.YtmahadmefplbnaaGreatDoorQTD34
set_option maxRecDepth 100000
set_option maxHeartbeats 2000000
open Go.Proofs.Tryz
set_option linter.unusedSimpArgs false
set_option linter.unusedVariables false
namespace Go.Proofs.YtmahadmefplbnaaGreatDoor
open Go Go.RowKit
structure MR(w:World)(n k:Nat)(vr vo:Value)(RG C vf:Nat->Value)(F:Nat->Nat->Value)(W:World):Prop where
 rows:bh w W 97 2 vr k RG
 obj:bh w W 34 1 vo n C
 j1:∀ i,i<k->bh w W 34 1 (vf i) n (F i)
def MD(k:Nat)(vr vo:Value)(vf:Nat->Value)(q:Nat):Prop:=c7 vr q∨c7 vo q∨∃ i,i<k/\c7 (vf i) q
section
variable {w W W':World} {n k:Nat} {vr vo:Value} {RG C vf:Nat->Value} {F:Nat->Nat->Value}
theorem MR.ext(h:MR w n k vr vo RG C vf F W)(e:Ext W W'):MR w n k vr vo RG C vf F W':=⟨h.rows.ext e,h.obj.ext e,fun i hi=>(h.j1 i hi).ext e⟩
theorem MR.alloc(h:MR w n k vr vo RG C vf F W)(o:Obj):MR w n k vr vo RG C vf F (W.alloc o):=h.ext ((Ext.refl _).alloc o)
theorem MR.drew(h:MR w n k vr vo RG C vf F W):MR w n k vr vo RG C vf F W.drew:=h.ext (Ext.refl _).drew
theorem MR.mv{Y:World}{S:Nat->Prop}(h:MR w n k vr vo RG C vf F W)(m:Mv Y W S W')(hs:∀ q,MD k vr vo vf q->¬ S q):MR w n k vr vo RG C vf F W' :=
 ⟨h.rows.mv m (fun q a=>hs q (Or.inl a)),h.obj.mv m (fun q a=>hs q (Or.inr (Or.inl a))),fun i hi=>(h.j1 i hi).mv m (fun q a=>hs q (Or.inr (Or.inr ⟨i,hi,a⟩)))⟩
theorem MR.other(h:MR w n k vr vo RG C vf F W){a:Addr}(u:Value)(hk:∀ q,MD k vr vo vf q->q≠a.block):MR w n k vr vo RG C vf F (W.setCell a u) :=
 ⟨h.rows.other u (fun v=>hk _ (Or.inl v) rfl),h.obj.other u (fun v=>hk _ (Or.inr (Or.inl v)) rfl),fun i hi=>(h.j1 i hi).other u (fun v=>hk _ (Or.inr (Or.inr ⟨i,hi,v⟩)) rfl)⟩
theorem MR.lt(h:MR w n k vr vo RG C vf F W):∀ q,MD k vr vo vf q->w.heap.size<=q/\q<W.heap.size:=fun q d=>d.elim (fun a=>h.rows.lt a) (fun d=>d.elim (fun a=>h.obj.lt a) (fun⟨i,hi,a⟩=>(h.j1 i hi).lt a))
theorem MR.ne(h:MR w n k vr vo RG C vf F W){b:Nat}(hb:W.heap.size<=b):∀ q,MD k vr vo vf q->q≠b:=fun q d e=>by have:=(h.lt q d).2;omega
theorem MR.Ei(h:MR w n k vr vo RG C vf F W){b:Nat}{D:Array Value}{t:TypeId}(hB:ax W b D t)(h2:97≠t)(h3:34≠t):∀ q,MD k vr vo vf q->q≠b:=fun q d e=>by
 subst e;rcases d with d|d|⟨i,hi,d⟩
 ·exact h.rows.aI hB h2 d
 ·exact h.obj.aI hB h3 d
 ·exact(h.j1 i hi).aI hB h3 d
theorem MR.push {x y vr' : Value} {vg : Nat -> Value} (h : MR w n k vr vo RG C vf F W) (hA : App w W 97 2 vr k 1 RG (fun i => if i = 0 then x else y) vr' W') (hx : bh w W 34 1 x n (F k)) (hg : vg k = x) (hg2 : ∀ i, i < k -> vg i = vf i) :
    MR w n (k+1) vr' vo (app (k*2) RG (fun i=>if i=0 then x else y)) C vg F W':=by
 refine⟨hA.own,h.obj.mv hA.mv (fun q hq hv=>(h.rows.apart h.obj af) q hv hq),fun i hi=>?_⟩;by_cases e:i=k
 ·rw[e,hg];exact hx.mv hA.mv (fun q hq hv=>(h.rows.apart hx af) q hv hq)
 ·rw[hg2 i ae];exact(h.j1 i ae).mv hA.mv (fun q hq hv=>(h.rows.apart (h.j1 i ae) af) q hv hq)
end
theorem zU:prog.underlying 29=some (.slice 97):=ag
theorem CA:(prog.info? 97).map (fun i=>(i.zero,i.size,i.bytes))=some (some (.agg #[.slice none 0 0,.string ⟨#[]⟩]),2,40):=ag
theorem Ai {k:Nat} {RG vf vg G:Nat->Value} {x:Value} (h:∀ i,i<k->RG (i*2)=vf i/\RG (i*2+1)=G i) (hg:vg k=x) (hg2:∀ i,i<k->vg i=vf i) :
    ∀ i,i<k+1->app (k*2) RG (fun i=>if i=0 then x else G k) (i*2)=vg i/\app (k*2) RG (fun i=>if i=0 then x else G k) (i*2+1)=G i:=fun i hi=>by
 by_cases e:i=k
 ·subst e;rw[dw ae,dw ae,hg,if_pos ae,if_neg ae];exact⟨rfl,rfl⟩
 ·rw[dF ae,dF ae,hg2 i ae];exact h i ae
theorem MR.pm{w W:World}{vr vo:Value}{RG vf:Nat->Value}{P:LP}(h:MR w P.n P.m vr vo RG (fun j => .string (qs (P.C j))) vf (fun i j => .string (qs (P.A i j))) W)(hg:∀ i,i<P.m->RG (i*2)=vf i/\RG (i*2+1) = .string (qs (P.B i))):PM P W vr vo vf:=by
 refine⟨?_,fun i hi=>(h.j1 i hi).rd,h.obj.rd⟩;rcases h.rows with⟨e1,e2⟩|⟨b,cap,D,e1,e2,e3,e4,e5,e6,e7⟩
 ·exact⟨none,0,by rw[e1,e2],ae,by unfold maxLen;omega,fun i hi=>ae⟩
 ·refine⟨some ⟨b,0,none⟩,cap,e1,e4,e5,fun i hi=>⟨b,0,rfl,?_,?_⟩⟩
  ·rw[Nat.zero_add];exact e3.cell _ (by rw[e7 _ ae,(hg i hi).1])
  ·rw[Nat.zero_add];exact e3.cell _ (by rw[e7 _ ae,(hg i hi).2])
def ir(n m:Nat)(c:Nat->Nat->Int)(o0 o1 o2:Int):LP:=⟨n,m,fun i j=>l3 ((c i 0).tmod 10) ((c i 1).tmod 10) ((c i 2).tmod 10) j,fun i=>mkRat ((c i 3).tmod 41) 2,fun j=>l3 (o0.tmod 10) (o1.tmod 10) (o2.tmod 10) j⟩
def EU(P:LP)(w:World)(e:Ending)(w':World):Prop:=∃ vr vo va,e = .returned (.agg #[.int .i64 (P.n:Int),vr,vo])/\Ext w w'/\PM P w' vr vo va
theorem rZ(i:Int):-40<=i.tmod 41/\i.tmod 41<=40:=by
 have h:=Int.natAbs_tmod i 41;have:=Nat.mod_lt i.natAbs (y:=41) af;simp only[show(41:Int).natAbs=41 from rfl] at h;omega
theorem ub(L:Nat)(hL:L<=3)(a0 a1 a2 d0 d1 d2:Int)(w:World)(g:Gd w)(h0:-128<=a0/\a0<=127)(e0:a0.tmod 10=d0)(h1:-128<=a1/\a1<=127)(e1:a1.tmod 10=d1)(h2:-128<=a2/\a2<=127)(e2:a2.tmod 10=d2):Calls prog 45 #[.agg #[.int .i8 a0,.int .i8 a1,.int .i8 a2],.int .i64 (L:Int)] w (zF w d0 d1 d2 L):=by
 rcases (by omega:L=0∨L=1∨L=2∨L=3) with rfl|rfl|rfl|rfl
 ·exact yH a0 a1 a2 d0 d1 d2 w g h0 e0 h1 e1 h2 e2
 ·exact yG a0 a1 a2 d0 d1 d2 w g h0 e0 h1 e1 h2 e2
 ·exact yF a0 a1 a2 d0 d1 d2 w g h0 e0 h1 e1 h2 e2
 ·exact yE a0 a1 a2 d0 d1 d2 w g h0 e0 h1 e1 h2 e2
theorem Cp(vv:Int)(m wcap:Nat)(wo:Option Addr)(c:Nat->Nat->Int)(o0 o1 o2:Int)(w:World)(g:Gd w)(nL:Nat)(hL:nL<=3)(hv:vv.tmod 4=(nL:Int))(hvr:0<=vv/\vv<=255)(hw:∀ i,i<m->∃ wa o,wo=some ⟨wa,o,none⟩/\∀ j,j<4->w.cell? ⟨wa,o+i*4+j,none⟩=some (.int .i8 (c i j)))(hc:∀ i j,-128<=c i j/\c i j<=127)(h0_:-128<=o0/\o0<=127)(h1_:-128<=o1/\o1<=127)(h2_:-128<=o2/\o2<=127)(hm:m<=6):Calls prog 14 #[.agg #[.int .u8 vv,.slice wo m wcap,.int .i8 o0,.int .i8 o1,.int .i8 o2]] w (EU (ir nL m c o0 o1 o2) w):=by
 have HG:=aj g;have HW:=aj hw;have HCR:=aj hc;clear g hw hc;have wL1:IntKind.u8.wrap (nL:Int)=nL:=IntWalk.u8_in _ ae;have wL2:IntKind.i64.wrap (nL:Int)=nL:=IntWalk.i64_in _ ae;have wk_:∀ k,IntKind.i64.wrap (c k 3)=c k 3:=fun k=>IntWalk.i64_in (c k 3) (by have:=HCR.o k 3;omega)
 go_enter func14,ntmps14;go_wp2_with fail;refine(ub nL hL o0 o1 o2 _ _ _ _ (HG.o.ext ((((Ext.refl w).alloc _).alloc _))) h0_ rfl h1_ rfl h2_ rfl).mono ?_;rintro e w1 ⟨v_,rfl,e1,ol_⟩;have olm_:=sI (X:=w) e1 ol_ (((Ext.refl w).alloc _).alloc _).size;clear ol_;have HX1:Hid (Ext w w1):=aj ((((Ext.refl w).alloc _).alloc _).trans e1);have HB0_1:Hid (ax w1 (w.heap.size) (#[.int .u8 vv,.slice wo m wcap,.int .i8 o0,.int .i8 o1,.int .i8 o2]) 26):=aj ((((ax.nw (#[.int .u8 vv,.slice wo m wcap,.int .i8 o0,.int .i8 o1,.int .i8 o2]) 26).alloc _)).ext e1);have HB1_1:Hid (ax w1 (w.heap.size+1) (#[.int .i64 0,.slice none 0 0,.slice none 0 0]) 32):=aj (((ax.nw (#[.int .i64 0,.slice none 0 0,.slice none 0 0]) 32)).ext e1);have HGEB0:Hid (w.heap.size<=w.heap.size):=aj (Nat.le_refl _);have HGEB1:Hid (w.heap.size<=w.heap.size+1):=aj ae;clear e1;obtain⟨lo,lc,rfl⟩:=olm_.vK;have HOV_1:=aj olm_;clear olm_;go_wp2_with fail;refine ay (fun W=>Ext w W/\ax W (w.heap.size) (#[.int .u8 vv,.slice wo m wcap,.int .i8 o0,.int .i8 o1,.int .i8 o2]) 26/\ax W (w.heap.size+1) (#[.int .i64 0,.slice none 0 0,.slice none 0 0]) 32/\bh w W 34 1 (.slice lo nL lc) nL ((nC (o0.tmod 10) (o1.tmod 10) (o2.tmod 10)))/\ax W (w1.heap.size) (#[.int .i64 (nL:Int),.slice none 0 0,.slice lo nL lc]) 32) ⟨(HX1.o.alloc _),(HB0_1.o.alloc _),(HB1_1.o.alloc _),(HOV_1.o.alloc _),(ax.nw (#[.int .i64 (nL:Int),.slice none 0 0,.slice lo nL lc]) 32)⟩ ?_;rintro w2 ⟨e2,bB0_2,bB1_2,bOV_2,bB2_2⟩;have HX2:=aj e2;have HB0_2:=aj bB0_2;have HB1_2:=aj bB1_2;have HOV_2:=aj bOV_2;have HB2_2:=aj bB2_2;have HGEB2:Hid (w.heap.size<=w1.heap.size):=aj (HX1.o.size);clear e2 bB0_2 bB1_2 bOV_2 bB2_2;have HVOx:Hid (bh w w2 34 1 (.slice lo nL lc) nL (nC (o0.tmod 10) (o1.tmod 10) (o2.tmod 10))):=aj HOV_2.o;go_wp2_with fail;go_loopw [5] (fun x0_ wx=>∃ k:Nat,x0_ = .int .i64 k/\k<=m/\Hid (Ext w wx/\ax wx (w.heap.size) (#[.int .u8 vv,.slice wo m wcap,.int .i8 o0,.int .i8 o1,.int .i8 o2]) 26/\ax wx (w.heap.size+1) (#[.int .i64 0,.slice none 0 0,.slice none 0 0]) 32/\(∃ vr RG vf,ax wx (w1.heap.size) #[.int .i64 (nL:Int),vr,.slice lo nL lc] 32/\MR w nL k vr (.slice lo nL lc) RG (nC (o0.tmod 10) (o1.tmod 10) (o2.tmod 10)) vf (fun i=>nC ((c i 0).tmod 10) ((c i 1).tmod 10) ((c i 2).tmod 10)) wx/\∀ i,i<k->RG (i*2)=vf i/\RG (i*2+1)=(fun i => .string (qs (mkRat ((c i 3).tmod 41) 2))) i))) (fun x0_ _=>m-(intOf x0_).toNat)
 case atStart=>exact⟨0,rfl,Nat.zero_le _,aj ⟨HX2.o,HB0_2.o,HB1_2.o,⟨_,fun _ => .slice none 0 0,fun _ => .slice none 0 0,HB2_2.o,⟨bh.nil _ _ _ _ _,HVOx.o,fun i hi=>absurd hi (Nat.not_lt_zero i)⟩,fun i hi=>absurd hi (Nat.not_lt_zero i)⟩⟩⟩
 case round =>
  rename World=>w3
  obtain⟨k,rfl,hkk,HH⟩:=hrel;have HX3:=aj HH.o.1;have HB0_3:=aj HH.o.2.1;have HB1_3:=aj HH.o.2.2.1;obtain⟨vr,RG,vf,a1_,a2_,a3_⟩:=HH.o.2.2.2;obtain⟨la,rc,rfl⟩:=a2_.rows.vK;have HB2_3:=aj a1_;have HMR_3:=aj a2_;have HRG:=aj a3_;clear a1_ a2_ a3_;clear HH;by_cases hlt:k<m
  ·have hlt2:(k:Int)<((m:Nat):Int):=ae;obtain⟨wa,o_,rfl,zw_⟩:=HW.o k hlt;have z0_:=zw_ 0 af;rw[Nat.add_zero] at z0_;have z1_:=zw_ 1 af;have z2_:=zw_ 2 af;have z3_:=zw_ 3 af;have HC0:=aj z0_;have HC1:=aj z1_;have HC2:=aj z2_;have HC3:=aj z3_;clear zw_ z0_ z1_ z2_ z3_;have hk6:(k:Int)<6:=ae;have c0_1:=HB0_3.o.cell 1 rfl;go_wp2_with fail;clear c0_1;go_wp2_with fail;refine aD [.val (.pointer (some ⟨w.heap.size,1,none⟩)),.val (.slice (some ⟨wa,o_,none⟩) m wcap),.val (.int .i64 (k:Int)),.val (.pointer (some ⟨wa,o_+k*4,none⟩)),.val (.pointer (some ⟨wa,o_+k*4,none⟩)),.val (.int .i8 (c k 0)),.val (.pointer (some ⟨w.heap.size,1,none⟩)),.val (.slice (some ⟨wa,o_,none⟩) m wcap),.val (.int .i64 (k:Int)),.val (.pointer (some ⟨wa,o_+k*4,none⟩)),.val (.pointer (some ⟨wa,o_+k*4+1,none⟩)),.val (.int .i8 (c k 1)),.val (.pointer (some ⟨w.heap.size,1,none⟩)),.val (.slice (some ⟨wa,o_,none⟩) m wcap),.val (.int .i64 (k:Int)),.val (.pointer (some ⟨wa,o_+k*4,none⟩)),.val (.pointer (some ⟨wa,o_+k*4+2,none⟩)),.val (.int .i8 (c k 2)),.val (.agg #[.int .i8 (c k 0),.int .i8 (c k 1),.int .i8 (c k 2)]),.aJ,.aJ] (fun L g W=>(L 19=true->∃ b,g 19 = .pointer (some ⟨b,0,none⟩)/\w3.heap.size<=b/\(if L 20=true then ax W b #[.int .i8 (c k 0),.int .i8 (c k 1),.int .i8 (c k 2)] 24 else ax W b #[.int .i8 0,.int .i8 0,.int .i8 0] 24))) (S:=fun _=>False) ag ag ag (Mv.refl HX3.o (fun k h=>h.elim)) ?_ ?_ ?_ ?_ (fun gv_ w4 hm_ he_=>?_)
   ·exact fun g=>fun h=>absurd h af
   ·exact fun L g W W1 h e=>fun a=>let ⟨b,x,y,z⟩:=h a;⟨b,x,y,aL z (fun h=>h.ext e) (fun h=>h.ext e)⟩
   ·intro i v L g W hi h;have n19_:i≠19:=fun e=>by subst e;exact absurd (show false=true from hi) af
    have n20_:i≠20:=fun e=>by subst e;exact absurd (show false=true from hi) af
    simp only[av n19_,aw n19_,av n20_,aw n20_];exact h
   ·skip
    refine RI 1 (.pointer (some ⟨w.heap.size,0,none⟩))<|J2 (fun hs_=>hs_.val 0) (fun hs_=>(hs_.mv.aF HB0_3.o (fun h=>h)).cell 1 rfl)<|RI 5 (.int .i64 (k:Int))<|R2 1 2<|R1 3<|J2 (fun hs_=>hs_.val 4) (fun hs_=>az hs_.mv.ext (HC0.o))<|RI 1 (.pointer (some ⟨w.heap.size,0,none⟩))<|J2 (fun hs_=>hs_.val 6) (fun hs_=>(hs_.mv.aF HB0_3.o (fun h=>h)).cell 1 rfl)<|RI 5 (.int .i64 (k:Int))<|R2 7 8<|R1 9<|J2 (fun hs_=>hs_.val 10) (fun hs_=>az hs_.mv.ext (HC1.o))<|RI 1 (.pointer (some ⟨w.heap.size,0,none⟩))<|J2 (fun hs_=>hs_.val 12) (fun hs_=>(hs_.mv.aF HB0_3.o (fun h=>h)).cell 1 rfl)<|RI 5 (.int .i64 (k:Int))<|R2 13 14<|R1 15<|J2 (fun hs_=>hs_.val 16) (fun hs_=>az hs_.mv.ext (HC2.o))<|J3 (fun hs_=>hs_.val 5) (fun hs_=>hs_.val 11) (fun hs_=>hs_.val 17) ?_;refine aB.cons (fun L_ g_ A_ W_ hs_=>?_) ?_
    ·refine bQ.aJ fun K_ hK_=>?_;have n20_:=hs_.no 20 af ag;have n19_:=hs_.not;have e_:=hs_.e;simp only[n20_,n19_,ak,if_false,if_true] at e_;have HN_:=aj (n20_);clear n20_ n19_;have HE_:=aj e_;have HM_:=aj hs_.mv;clear e_;go_simp;exact hK_.o _ _ (HM_.o.alloc _) (by simp only[aE,aH,av (show(19:Nat)≠20 by decide),aw (show(19:Nat)≠20 by decide),HN_.o,ak,if_false,if_true];exact fun _=>⟨_,rfl,HM_.o.size,ax.new _ _ _⟩)
    refine aB.cons (fun L_ g_ A_ W_ hs_=>?_) ?_
    ·have q6_:=hs_.aJ 19;have q46_:=hs_.val 18;refine bQ.aJ fun K_ hK_=>?_;have y19_:=hs_.yes 19 ag;have n20_:=hs_.not;have e_:=hs_.e;simp only[y19_,n20_,ak,if_false,if_true] at e_;obtain⟨b_,g_eq,hb_,hB_⟩:=e_ trivial;rw[g_eq] at q6_;have HG_:=aj g_eq;have HB_:=aj hB_;have HL_:=aj hb_;clear g_eq hb_ hB_;have c_0:=HB_.o.cell 0 rfl;have c_1:=HB_.o.cell 1 rfl;have c_2:=HB_.o.cell 2 rfl;have f_0:=HB_.o.free 0;have f_1:=HB_.o.free 1;have f_2:=HB_.o.free 2;have HN_:=aj (y19_);clear y19_ n20_;have HE_:=aj e_;have HM_:=aj hs_.mv;clear e_;go_simp;exact hK_.o undef _ (((HM_.o.setCell (Or.inr HL_.o) _).setCell (Or.inr HL_.o) _).setCell (Or.inr HL_.o) _) (by simp only[aE,aH,av (show(20:Nat)≠19 by decide),aw (show(20:Nat)≠19 by decide),HN_.o,ak,if_false,if_true];exact fun _=>⟨b_,HG_.o,HL_.o,((HB_.o.set 0 _).set 1 _).set 2 _⟩)
    exact aB.nil
   simp only[fT,Ke.value,bD,Act.put,List.setIfInBounds_toArray,List.set_cons_zero,List.set_cons_succ,Nat.reduceAdd];have HX4:Hid (Ext w w4):=aj hm_.ext;have HB0_4:=aj (hm_.aF HB0_3.o (fun h=>h));have HB1_4:=aj (hm_.aF HB1_3.o (fun h=>h));have HB2_4:=aj (hm_.aF HB2_3.o (fun h=>h));have HMR_4:=aj (HMR_3.o.mv hm_ (fun q hq h=>h));obtain⟨b6,g6_,l6_,h6_⟩:=he_ rfl;rw[if_pos rfl] at h6_;rw[g6_];have HB6_4:=aj h6_;have HG6:Hid (w.heap.size<=b6):=aj (Nat.le_trans HX3.o.size l6_);clear g6_ l6_ h6_;clear hm_ he_;go_wp2_with fail;go_wp2_with fail;refine aD [.val (.pointer (some ⟨w1.heap.size,1,none⟩)),.val (.slice la k rc),.val (.agg #[.int .i8 (c k 0),.int .i8 (c k 1),.int .i8 (c k 2)]),.val (.int .i64 (nL:Int)),.aJ,.val (.pointer (some ⟨w.heap.size,1,none⟩)),.val (.slice (some ⟨wa,o_,none⟩) m wcap),.val (.int .i64 (k:Int)),.val (.pointer (some ⟨wa,o_+k*4,none⟩)),.val (.pointer (some ⟨wa,o_+k*4+3,none⟩)),.val (.int .i8 (c k 3)),.val (.int .i64 (c k 3)),.val (.int .i64 ((c k 3).tmod 41)),.val (.string (qs (mkRat ((c k 3).tmod 41) 2))),.aJ,.aJ,.aJ,.val (.pointer (some ⟨w1.heap.size,1,none⟩)),.aJ] (fun L g W=>(L 4=true->bh w W 34 1 (g 4) nL ((fun i=>nC ((c i 0).tmod 10) ((c i 1).tmod 10) ((c i 2).tmod 10)) k))/\(L 14=true->g 14 = .agg #[g 4,.string (qs (mkRat ((c k 3).tmod 41) 2))])/\(L 15=true->∃ b,g 15 = .slice (some ⟨b,0,none⟩) 1 1/\(L 16=false->ax W b #[g 4,.string (qs (mkRat ((c k 3).tmod 41) 2))] 97))/\(if L 16=true then MR w nL (k+1) (g 16) (.slice lo nL lc) (app (k*2) RG (fun i=>if i=0 then(g 4) else .string (qs (mkRat ((c k 3).tmod 41) 2)))) (nC (o0.tmod 10) (o1.tmod 10) (o2.tmod 10)) (fun i=>if i=k then g 4 else vf i) (fun i=>nC ((c i 0).tmod 10) ((c i 1).tmod 10) ((c i 2).tmod 10)) W else MR w nL k (.slice la k rc) (.slice lo nL lc) RG (nC (o0.tmod 10) (o1.tmod 10) (o2.tmod 10)) vf (fun i=>nC ((c i 0).tmod 10) ((c i 1).tmod 10) ((c i 2).tmod 10)) W)/\(if L 18=true then ax W (w1.heap.size) #[.int .i64 (nL:Int),g 16,.slice lo nL lc] 32 else ax W (w1.heap.size) #[.int .i64 (nL:Int),.slice la k rc,.slice lo nL lc] 32)) (S:=fun q=>c7 (.slice la k rc) q∨q=w1.heap.size) ag ag ag (Mv.refl HX4.o (fun q h=>h.elim (fun a=>(HMR_4.o.rows.lt a).1) (fun e=>e▸HGEB2.o))) ?_ ?_ ?_ ?_ (fun gv_ w5 hm_ he_=>?_)
   ·exact fun g=>⟨fun h=>absurd h af,fun h=>absurd h af,fun h=>absurd h af,(by rw[if_neg af];exact HMR_4.o.drew),(by rw[if_neg af];exact HB2_4.o.drew)⟩
   ·exact fun L g W W1 h e=>⟨fun a=>(h.1 a).ext e,h.2.1,fun a=>let ⟨b,x,y⟩:=h.2.2.1 a;⟨b,x,fun z=>(y z).ext e⟩,aL h.2.2.2.1 (fun h=>h.ext e) (fun h=>h.ext e),aL h.2.2.2.2 (fun h=>h.ext e) (fun h=>h.ext e)⟩
   ·intro i v L g W hi h;have n4_:i≠4:=fun e=>by subst e;exact absurd (show false=true from hi) af
    have n14_:i≠14:=fun e=>by subst e;exact absurd (show false=true from hi) af
    have n15_:i≠15:=fun e=>by subst e;exact absurd (show false=true from hi) af
    have n16_:i≠16:=fun e=>by subst e;exact absurd (show false=true from hi) af
    have n18_:i≠18:=fun e=>by subst e;exact absurd (show false=true from hi) af
    simp only[av n4_,aw n4_,av n14_,aw n14_,av n15_,aw n15_,av n16_,aw n16_,av n18_,aw n18_];exact h
   ·skip
    refine RI 4 (.pointer (some ⟨w1.heap.size,0,none⟩)) ?_;refine RV (fun A_ hs_ K_ hK_=>?_) ?_;· have q47_:=hs_.val 0;have n_:=hs_.no 18 af ag;have ep_:=hs_.e.2.2.2.2;rw[if_neg (by rw[n_];decide)] at ep_;have cp_1:=ep_.cell 1 rfl;clear n_ ep_;go_simp;exact dS hK_
    refine J4 (fun hs_=>hs_.is 6 (.pointer (some ⟨b6,0,none⟩))) (fun hs_=>(hs_.mv.aF HB6_4.o (fun h=>h.elim (HMR_4.o.rows.aI HB6_4.o af) (fun e=>(aY HB6_4.o HB2_4.o af) e))).cell (0) rfl) (fun hs_=>(hs_.mv.aF HB6_4.o (fun h=>h.elim (HMR_4.o.rows.aI HB6_4.o af) (fun e=>(aY HB6_4.o HB2_4.o af) e))).cell (1) rfl) (fun hs_=>(hs_.mv.aF HB6_4.o (fun h=>h.elim (HMR_4.o.rows.aI HB6_4.o af) (fun e=>(aY HB6_4.o HB2_4.o af) e))).cell (2) rfl)<|RI 3 (.int .i64 (nL:Int)) ?_;refine aB.cons (fun L_ g_ A_ W_ hs_=>?_) ?_
    ·have q49_:=hs_.val 2;have q50_:=hs_.val 3;refine bQ.aJ fun K_ hK_=>?_;have n14_:=hs_.no 14 af ag;have n15_:=hs_.no 15 af ag;have n16_:=hs_.no 16 af ag;have n18_:=hs_.no 18 af ag;have n4_:=hs_.not;have e_:=hs_.e;simp only[n14_,n15_,n16_,n18_,n4_,ak,if_false,if_true] at e_;have HN_:=aj (And.intro n14_ (And.intro n15_ (And.intro n16_ (n18_))));clear n14_ n15_ n16_ n18_ n4_;have HE_:=aj e_;have HM_:=aj hs_.mv;clear e_;go_simp;refine(ub nL hL (c k 0) (c k 1) (c k 2) _ _ _ _ (HG.o.ext HM_.o.ext) (HCR.o k 0) rfl (HCR.o k 1) rfl (HCR.o k 2) rfl).mono ?_;rintro e W9_ ⟨v_,rfl,e9_,ho_⟩;exact hK_.o v_ W9_ (HM_.o.trans e9_) (by simp only[aE,aH,av (show(4:Nat)≠14 by decide),aw (show(4:Nat)≠14 by decide),av (show(4:Nat)≠15 by decide),aw (show(4:Nat)≠15 by decide),av (show(4:Nat)≠16 by decide),aw (show(4:Nat)≠16 by decide),av (show(4:Nat)≠18 by decide),aw (show(4:Nat)≠18 by decide),HN_.o.1,HN_.o.2.1,HN_.o.2.2.1,HN_.o.2.2.2,ak,if_false,if_true];exact⟨fun _=>sI e9_ ho_ HM_.o.ext.size,(fun h=>by cases h),(fun h=>by cases h),HE_.o.2.2.2.1.ext e9_,HE_.o.2.2.2.2.ext e9_⟩)
    refine RI 1 (.pointer (some ⟨w.heap.size,0,none⟩))<|J2 (fun hs_=>hs_.val 5) (fun hs_=>(hs_.mv.aF HB0_4.o (fun h=>h.elim (HMR_4.o.rows.aI HB0_4.o af) (fun e=>(aY HB0_4.o HB2_4.o af) e))).cell 1 rfl)<|RI 5 (.int .i64 (k:Int))<|R2 6 7<|R1 8<|J2 (fun hs_=>hs_.val 9) (fun hs_=>az hs_.mv.ext (HC3.o)) ?_;refine RV (fun A_ hs_ K_ hK_=>?_) ?_;· have q57_:=hs_.val 10;go_simp;(try go_bits);exact dS hK_
    refine RV (fun A_ hs_ K_ hK_=>?_) ?_;· have q58_:=hs_.val 11;go_simp;(try go_bits);exact dS hK_
    refine K1 (fun hs_=>hs_.val 12) (fun hs_=>jq ((c k 3).tmod 41) 2 _ (HG.o.ext hs_.mv.ext) (by have:=rZ (c k 3);omega) (by have:=rZ (c k 3);omega) af af) ?_;refine aB.cons (fun L_ g_ A_ W_ hs_=>?_) ?_
    ·have q51_:=hs_.aJ 4;have q60_:=hs_.val 13;refine bQ.aJ fun K_ hK_=>?_;have y4_:=hs_.yes 4 ag;have n15_:=hs_.no 15 af ag;have n16_:=hs_.no 16 af ag;have n18_:=hs_.no 18 af ag;have n14_:=hs_.not;have e_:=hs_.e;simp only[y4_,n15_,n16_,n18_,n14_,ak,if_false,if_true] at e_;obtain⟨a_,cc_,es_⟩:=(e_.1 trivial).vK;rw[es_] at e_ q51_;have HES:=aj es_;clear es_;have HN_:=aj (And.intro y4_ (And.intro n15_ (And.intro n16_ (n18_))));clear y4_ n15_ n16_ n18_ n14_;have HE_:=aj e_;have HM_:=aj hs_.mv;clear e_;go_simp;exact hK_.o _ _ HM_.o (by simp only[aE,aH,av (show(14:Nat)≠4 by decide),aw (show(14:Nat)≠4 by decide),av (show(14:Nat)≠15 by decide),aw (show(14:Nat)≠15 by decide),av (show(14:Nat)≠16 by decide),aw (show(14:Nat)≠16 by decide),av (show(14:Nat)≠18 by decide),aw (show(14:Nat)≠18 by decide),HN_.o.1,HN_.o.2.1,HN_.o.2.2.1,HN_.o.2.2.2,HES.o,ak,if_false,if_true];exact⟨fun _=>HE_.o.1 trivial,fun _=>by first|rfl|trivial,(fun h=>by cases h),HE_.o.2.2.2.1,HE_.o.2.2.2.2⟩)
    refine aB.cons (fun L_ g_ A_ W_ hs_=>?_) ?_
    ·have q61_:=hs_.aJ 14;refine bQ.aJ fun K_ hK_=>?_;have y4_:=hs_.yes 4 ag;have y14_:=hs_.yes 14 ag;have n16_:=hs_.no 16 af ag;have n18_:=hs_.no 18 af ag;have n15_:=hs_.not;have e_:=hs_.e;simp only[y4_,y14_,n16_,n18_,n15_,ak,if_false,if_true] at e_;obtain⟨a_,cc_,es_⟩:=(e_.1 trivial).vK;have e14_:=e_.2.1 trivial;rw[e14_] at q61_;rw[es_] at e_ q61_;have HES:=aj es_;have H14:=aj e14_;clear es_ e14_;have HN_:=aj (And.intro y4_ (And.intro y14_ (And.intro n16_ (n18_))));clear y4_ y14_ n16_ n18_ n15_;have HE_:=aj e_;have HM_:=aj hs_.mv;clear e_;go_simp;exact hK_.o _ _ (HM_.o.alloc _) (by simp only[aE,aH,av (show(15:Nat)≠4 by decide),aw (show(15:Nat)≠4 by decide),av (show(15:Nat)≠14 by decide),aw (show(15:Nat)≠14 by decide),av (show(15:Nat)≠16 by decide),aw (show(15:Nat)≠16 by decide),av (show(15:Nat)≠18 by decide),aw (show(15:Nat)≠18 by decide),HN_.o.1,HN_.o.2.1,HN_.o.2.2.1,HN_.o.2.2.2,HES.o,ak,if_false,if_true];exact⟨fun _=>(HE_.o.1 trivial).alloc _,fun _=>HE_.o.2.1 trivial,fun _=>⟨_,rfl,fun _=>ax.new _ _ _⟩,HE_.o.2.2.2.1.alloc _,HE_.o.2.2.2.2.alloc _⟩)
    refine aB.cons (fun L_ g_ A_ W_ hs_=>?_) ?_
    ·have q48_:=hs_.val 1;have q62_:=hs_.aJ 15;refine bQ.aJ fun K_ hK_=>?_;have y4_:=hs_.yes 4 ag;have y14_:=hs_.yes 14 ag;have y15_:=hs_.yes 15 ag;have n18_:=hs_.no 18 af ag;have n16_:=hs_.not;have e_:=hs_.e;simp only[y4_,y14_,y15_,n18_,n16_,ak,if_false,if_true] at e_;obtain⟨b_,g_eq,hb_⟩:=e_.2.2.1 trivial;rw[g_eq] at q62_;have HG_:=aj g_eq;have HB_:=aj (hb_ trivial);clear g_eq hb_;have HN_:=aj (And.intro y4_ (And.intro y14_ (And.intro y15_ (n18_))));clear y4_ y14_ y15_ n18_ n16_;have HE_:=aj e_;have HM_:=aj hs_.mv;clear e_;refine fD (X:=w) (H:=(fun i=>if i=0 then(g_ 4) else .string (qs (mkRat ((c k 3).tmod 41) 2)))) (ad:=⟨b_,0,none⟩) (m:=1) (c:=1) (v:=(.slice la k rc)) rfl (by go_simp) (by go_simp) zU CA rfl HM_.o.ext HE_.o.2.2.2.1.rows (fun _=>af) (tC HB_.o) (tD (HE_.o.1 trivial).one rfl) (by unfold maxLen;omega) ae (fun v_ W9_ hA_=>?_);exact hK_.o v_ W9_ (HM_.o.comp hA_.mv (fun q h=>Or.inl (Or.inl h))) (by simp only[aE,aH,av (show(16:Nat)≠4 by decide),aw (show(16:Nat)≠4 by decide),av (show(16:Nat)≠14 by decide),aw (show(16:Nat)≠14 by decide),av (show(16:Nat)≠15 by decide),aw (show(16:Nat)≠15 by decide),av (show(16:Nat)≠18 by decide),aw (show(16:Nat)≠18 by decide),HN_.o.1,HN_.o.2.1,HN_.o.2.2.1,HN_.o.2.2.2,ak,if_false,if_true];exact⟨fun _=>(HE_.o.1 trivial).mv hA_.mv (fun q a b=>HE_.o.2.2.2.1.rows.apart (HE_.o.1 trivial) af q b a),fun _=>HE_.o.2.1 trivial,fun _=>⟨b_,HG_.o,(fun h=>by cases h)⟩,HE_.o.2.2.2.1.push hA_ (HE_.o.1 trivial) (if_pos rfl) (fun i hi=>if_neg ae),hA_.mv.aF HE_.o.2.2.2.2 (HE_.o.2.2.2.1.rows.aI HE_.o.2.2.2.2 af)⟩)
    refine RI 4 (.pointer (some ⟨w1.heap.size,0,none⟩)) ?_;refine aB.cons (fun L_ g_ A_ W_ hs_=>?_) ?_
    ·have q64_:=hs_.val 17;have q63_:=hs_.aJ 16;refine bQ.aJ fun K_ hK_=>?_;have y4_:=hs_.yes 4 ag;have y14_:=hs_.yes 14 ag;have y15_:=hs_.yes 15 ag;have y16_:=hs_.yes 16 ag;have n18_:=hs_.not;have e_:=hs_.e;simp only[y4_,y14_,y15_,y16_,n18_,ak,if_false,if_true] at e_;obtain⟨a_,cc_,es_⟩:=e_.2.2.2.1.rows.vK;rw[es_] at e_ q63_;have HES:=aj es_;clear es_;have c_:=e_.2.2.2.2.cell 1 rfl;have f_:=e_.2.2.2.2.free 1;have HN_:=aj (And.intro y4_ (And.intro y14_ (And.intro y15_ (y16_))));clear y4_ y14_ y15_ y16_ n18_;have HE_:=aj e_;have HM_:=aj hs_.mv;clear e_;go_simp;exact hK_.o undef _ (HM_.o.setCell (Or.inl (Or.inr rfl)) _) (by simp only[aE,aH,av (show(18:Nat)≠4 by decide),aw (show(18:Nat)≠4 by decide),av (show(18:Nat)≠14 by decide),aw (show(18:Nat)≠14 by decide),av (show(18:Nat)≠15 by decide),aw (show(18:Nat)≠15 by decide),av (show(18:Nat)≠16 by decide),aw (show(18:Nat)≠16 by decide),HN_.o.1,HN_.o.2.1,HN_.o.2.2.1,HN_.o.2.2.2,HES.o,ak,if_false,if_true];exact⟨fun _=>(HE_.o.1 trivial).other _ ((HE_.o.1 trivial).aI HE_.o.2.2.2.2 af),fun _=>HE_.o.2.1 trivial,fun _=>let ⟨b,x,_⟩:=HE_.o.2.2.1 trivial;⟨b,x,(fun h=>by cases h)⟩,HE_.o.2.2.2.1.other _ (HE_.o.2.2.2.1.Ei HE_.o.2.2.2.2 af af),HE_.o.2.2.2.2.set 1 _⟩)
    exact aB.nil
   simp only[fT,Ke.value,bD,Act.put,List.setIfInBounds_toArray,List.set_cons_zero,List.set_cons_succ,Nat.reduceAdd];have HX5:Hid (Ext w w5):=aj hm_.ext;have HB0_5:=aj (hm_.aF HB0_4.o (fun h=>h.elim (HMR_4.o.rows.aI HB0_4.o af) (fun e=>(aY HB0_4.o HB2_4.o af) e)));have HB1_5:=aj (hm_.aF HB1_4.o (fun h=>h.elim (HMR_4.o.rows.aI HB1_4.o af) (fun e=>(Nat.ne_of_lt HB1_1.o.lt) e)));have HB6_5:=aj (hm_.aF HB6_4.o (fun h=>h.elim (HMR_4.o.rows.aI HB6_4.o af) (fun e=>(aY HB6_4.o HB2_4.o af) e)));have h_:=he_;simp only[if_true] at h_;obtain⟨vr2,ev_⟩:∃ v,gv_ 16=v:=⟨_,rfl⟩
   obtain⟨vf2,eg_⟩:∃ v,gv_ 4=v:=⟨_,rfl⟩
   rw[ev_,eg_] at h_;have HMR_5:=aj h_.2.2.2.1;have HB2_5:=aj h_.2.2.2.2;have HRG2:=aj (Ai (G:=(fun i => .string (qs (mkRat ((c i 3).tmod 41) 2)))) (x:=vf2) (vg:=fun i=>if i=k then vf2 else vf i) HRG.o (if_pos rfl) (fun i hi=>if_neg ae));clear h_ ev_ eg_;clear hm_ he_;go_wp2_with fail;go_roundw
   case rel=>exact⟨k+1,by go_num,ae,aj ⟨HX5.o,HB0_5.o,HB1_5.o,⟨_,_,_,HB2_5.o,HMR_5.o,HRG2.o⟩⟩⟩
   case measure=>simp[intOf];omega
  ·have hk2:k=m:=ae;have hge:¬ (k:Int)<((m:Nat):Int):=ae;obtain rfl:m=k:=hk2.symm;have c0_1:=HB0_3.o.cell 1 rfl;have c2_0:=HB2_3.o.cell 0 rfl;have c2_1:=HB2_3.o.cell 1 rfl;have c2_2:=HB2_3.o.cell 2 rfl;have c1_0:=HB1_3.o.cell 0 rfl;have f1_0:=HB1_3.o.free 0;have c1_1:=HB1_3.o.cell 1 rfl;have f1_1:=HB1_3.o.free 1;have c1_2:=HB1_3.o.cell 2 rfl;have f1_2:=HB1_3.o.free 2;go_wp2_with fail;refine ay (fun W=>Ext w W/\ax W (w.heap.size) (#[.int .u8 vv,.slice wo m wcap,.int .i8 o0,.int .i8 o1,.int .i8 o2]) 26/\ax W (w.heap.size+1) (#[.int .i64 (nL:Int),.slice la m rc,.slice lo nL lc]) 32/\ax W (w1.heap.size) (#[.int .i64 (nL:Int),.slice la m rc,.slice lo nL lc]) 32/\MR w nL m (.slice la m rc) (.slice lo nL lc) RG (nC (o0.tmod 10) (o1.tmod 10) (o2.tmod 10)) vf (fun i=>nC ((c i 0).tmod 10) ((c i 1).tmod 10) ((c i 2).tmod 10)) W) ⟨(((HX3.o.setCell (HGEB1.o) _).setCell (HGEB1.o) _).setCell (HGEB1.o) _),(((HB0_3.o.other (a:=⟨w.heap.size+1,0,none⟩) _ ah).other (a:=⟨w.heap.size+1,1,none⟩) _ ah).other (a:=⟨w.heap.size+1,2,none⟩) _ ah),(((HB1_3.o.set 0 (.int .i64 (nL:Int))).set 1 (.slice la m rc)).set 2 (.slice lo nL lc)),(((HB2_3.o.other (a:=⟨w.heap.size+1,0,none⟩) _ (Nat.ne_of_gt HB1_1.o.lt)).other (a:=⟨w.heap.size+1,1,none⟩) _ (Nat.ne_of_gt HB1_1.o.lt)).other (a:=⟨w.heap.size+1,2,none⟩) _ (Nat.ne_of_gt HB1_1.o.lt)),(((HMR_3.o.other (a:=⟨w.heap.size+1,0,none⟩) _ ((MR.Ei HMR_3.o HB1_3.o af af))).other (a:=⟨w.heap.size+1,1,none⟩) _ ((MR.Ei HMR_3.o HB1_3.o af af))).other (a:=⟨w.heap.size+1,2,none⟩) _ ((MR.Ei HMR_3.o HB1_3.o af af)))⟩ ?_;rintro w4 ⟨e4,bB0_4,bB1_4,bB2_4,bMR_4⟩;have HX4:=aj e4;have HB0_4:=aj bB0_4;have HB1_4:=aj bB1_4;have HB2_4:=aj bB2_4;have HMR_4:=aj bMR_4;clear e4 bB0_4 bB1_4 bB2_4 bMR_4 c0_1 c2_0 c2_1 c2_2 c1_0 f1_0 c1_1 f1_1 c1_2 f1_2;have gB1_0:=HB1_4.o.cell 0 rfl;have gB1_1:=HB1_4.o.cell 1 rfl;have gB1_2:=HB1_4.o.cell 2 rfl;refine bodyPost_ret (v:=.agg #[.int .i64 (nL:Int),.slice la m rc,.slice lo nL lc]) (by simp[results,results14,go_sem,gB1_0,gB1_1,gB1_2]) rfl ⟨_,_,_,rfl,HX4.o,MR.pm (P:=ir nL m c o0 o1 o2) HMR_4.o HRG.o⟩
structure Sm(P:LP):Prop where
 n:P.n<=3
 m:P.m<=6
 A:∀ i,i<P.m->∀ k,k<P.n->ZB 54 (2*P.A i k)
 B:∀ i,i<P.m->ZB 54 (2*P.B i)
 C:∀ k,k<P.n->ZB 54 (2*P.C k)
theorem nR:ZB 54 (2:Rat):=⟨2,rfl,af⟩
theorem wX{x:Rat}(h:ZB 54 (2*x)):QB 2 x:=ZB.qb (D:=2) af nR h af
theorem xw{n:Nat}(h:n<=3):(n+1)*54*GB n 54<10 ^ 17:=by
 rcases (by omega:n=0∨n=1∨n=2∨n=3) with h|h|h|h <;> rw[h] <;> decide
section
variable {P:LP}
theorem Sm.Dt(h:Sm P):zP P 17:=Sz.Dt (s:=2) (K:=54) ⟨af,af,nR,h.A,h.B,h.C⟩ (xw h.n)
theorem Sm.qa(h:Sm P):∀ i,i<P.m->∀ j,j<P.n->QB 2 (P.A i j):=fun i hi j hj=>wX (h.A i hi j hj)
theorem Sm.qb(h:Sm P):∀ i,i<P.m->QB 2 (P.B i):=fun i hi=>wX (h.B i hi)
theorem Sm.qc(h:Sm P):∀ j,j<P.n->QB 2 (P.C j):=fun j hj=>wX (h.C j hj)
theorem Sm.DF(h:Sm P):∀ i,i<P.m->∀ j,j<P.n->QB 17 (P.A i j):=fun i hi j hj=>(h.qa i hi j hj).mono af
theorem Sm.pq(h:Sm P):PQ P:=⟨fun i hi j hj=>(h.qa i hi j hj).mono af,fun i hi=>(h.qb i hi).mono af,fun j hj=>(h.qc j hj).mono af⟩
theorem Sm.obj(h:Sm P){C:Nat->Rat}(hC:∀ k,k<P.n->ZB 54 (2*C k)):Sm { P with C:=C }:=⟨h.n,h.m,h.A,h.B,hC⟩
theorem Sm.zero(h:Sm P):Sm { P with C:=fun _=>0 }:=h.obj fun k _=>by rw[Rat.mul_zero];exact ZB.zero _
theorem Sm.unit(h:Sm P)(k:Nat){s:Rat}(hs:s=1∨s=-1):Sm (P.unit k s):=h.obj fun j _=>by
 show ZB 54 (2*(if j=k then s else 0));split
 ·rcases hs with rfl|rfl
  ·exact⟨2,by grind,af⟩
  ·exact⟨-2,by grind,af⟩
 ·rw[Rat.mul_zero];exact ZB.zero _
theorem Sm.rows(h:Sm P){m:Nat}(hm:m<=P.m):Sm { P with m:=m }:=⟨h.n,Nat.le_trans hm h.m,fun i hi=>h.A i (Nat.lt_of_lt_of_le hi hm),fun i hi=>h.B i (Nat.lt_of_lt_of_le hi hm),h.C⟩
end
theorem wY{a b c:Int}(j:Nat):ZB 18 (2*l3 (a.tmod 10) (b.tmod 10) (c.tmod 10) j):=by
 have one:∀ i:Int,ZB 18 (2*mkRat (i.tmod 10) 1):=fun i=>by
  have:=eg i;refine⟨2*i.tmod 10,?_,ae⟩;rw[Rat.mkRat_eq_div,Rat.intCast_mul];grind
 rw[l3];split
 ·exact one a
 ·split
  ·exact one b
  ·exact one c
theorem El{i:Int}:ZB 40 (2*mkRat (i.tmod 41) 2):=by
 have:=rZ i;refine⟨i.tmod 41,?_,ae⟩;rw[Rat.mkRat_eq_div];grind
theorem tQ{n m:Nat}{c:Nat->Nat->Int}{o0 o1 o2:Int}(hn:n<=3)(hm:m<=6):Sm (ir n m c o0 o1 o2) :=
 ⟨hn,hm,fun i _ k _=>(wY k).mono af,fun i _=>El.mono af,fun k _=>(wY k).mono af⟩
theorem sD{n m:Nat}{c:Nat->Nat->Int}{o0 o1 o2:Int}(hn:n<=3)(hm:m<=6):Sm { ir n m c o0 o1 o2 with C:=fun k=>3*(ir n m c o0 o1 o2).C k } :=
 (tQ hn hm).obj fun k _=>by
  have:=(ZB.mul (A:=3) (B:=18) (x:=3) ⟨3,rfl,af⟩ (wY (a:=o0) (b:=o1) (c:=o2) k))
  show ZB 54 (2*(3*l3 (o0.tmod 10) (o1.tmod 10) (o2.tmod 10) k));rwa[show(2:Rat)*(3*l3 (o0.tmod 10) (o1.tmod 10) (o2.tmod 10) k)=3*(2*l3 (o0.tmod 10) (o1.tmod 10) (o2.tmod 10) k) by grind]
structure nO(w:World)(v:Value)(m:Nat)(t:Nat->ByteArray):Prop where
 rs:Rs w v m t
 sz:∀ i,i<m->(t i).size<=1000000
 le:m<=1000
 q:Dc t m 20
theorem nO.ext{w w':World}{v:Value}{m:Nat}{t:Nat->ByteArray}(h:nO w v m t)(e:Ext w w'):nO w' v m t:=⟨h.rs.ext e,h.sz,h.le,h.q⟩
theorem nO.nil(w:World):nO w (.slice none 0 0) 0 (fun _=>⟨#[]⟩):=⟨Rd.nil w _,fun i hi=>absurd hi (Nat.not_lt_zero i),af,fun i hi=>absurd hi (Nat.not_lt_zero i)⟩
theorem nO.qs{X w:World}{v:Value}{n q:Nat}{x:Nat->Rat}(h:Nq X w v n x)(hx:∀ j,j<n->QB q (x j))(hq:q<=20)(hn:n<=1000):nO w v n (fun j=>qs (x j)) :=
 ⟨h.rd (dW hn),fun j hj=>((hx j hj).mono hq).sz af,hn,fun j hj _=>⟨x j,rfl,(hx j hj).mono hq⟩⟩
section
variable {P:LP} {X w:World} {vr vc v:Value} {va:Nat->Value}
theorem br.texts (h:br P 17 X w v) (hn:P.n<=1000) (hm:P.m<=1000):∃ kd val o1 m1 c1 o2 m2 c2 o3 m3 c3 t1 t2 t3,v = .agg #[.int .i64 kd,.string val,.slice o1 m1 c1,.slice o2 m2 c2,.slice o3 m3 c3]/\val.size<=1000000 /\
    nO w (.slice o1 m1 c1) m1 t1/\nO w (.slice o2 m2 c2) m2 t2/\nO w (.slice o3 m3 c3) m3 t3/\BJ P kd val t1 m1 t2 m2 t3 m3=0:=by
 rcases h with⟨val,x,y,vp,vd,rfl,h2,h3,h4,h5,h6,h7⟩|⟨y,vd,rfl,h2,h3,h4⟩|⟨x,d,vp,vd,rfl,h2,h3,h4,h5,h6⟩
 ·obtain⟨a,c,rfl⟩:=h6.cH;obtain⟨a',c',rfl⟩:=h7.cH;exact⟨_,_,_,_,_,_,_,_,_,_,_,_,_,_,rfl,h3.sz af,nO.qs h6 h4 af hn,nO.qs h7 h5 af hm,nO.nil w,xe h2 h4 h5 h3 af⟩
 ·obtain⟨a,c,rfl⟩:=h4.cH;exact⟨_,_,_,_,_,_,_,_,_,_,_,_,_,_,rfl,af,nO.nil w,nO.qs h4 h3 af hm,nO.nil w,zT h2 h3 af⟩
 ·obtain⟨a,c,rfl⟩:=h5.cH;obtain⟨a',c',rfl⟩:=h6.cH;exact⟨_,_,_,_,_,_,_,_,_,_,_,_,_,_,rfl,af,nO.qs h5 h3 af hn,nO.nil w,nO.qs h6 h4 af hn,xd h2 h3 h4 af⟩
variable (g:Gd w) (hP:PM P w vr vc va) (S:Sm P)
include g hP S
theorem yw:Calls prog 15 #[.agg #[.int .i64 (P.n:Int),vr,vc]] w (BF P 17 w) :=
 Cg P vr vc va 17 w g hP S.Dt S.pq (by have:=S.n;omega) (by have:=S.m;omega) af af S.DF
theorem xS(k:Nat)(hk:k<P.n):Calls prog 19 #[.agg #[.int .i64 (P.n:Int),vr,vc],.int .i64 (k:Int)] w (uJ P k 17 w) :=
 x5 P vr vc va 17 w g hP k hk (S.unit k (Or.inl rfl)).Dt (S.unit k (Or.inr rfl)).Dt S.pq (by have:=S.n;omega) (by have:=S.m;omega) af af S.DF
end
section
variable {P:LP} {v v':Rat} {x y x' y' d:Nat->Rat}
theorem eH.unique(h:eH P v x y)(h':eH P v' x' y'):v=v':=by
 have a:=h.least _ h'.eP;have b:=h'.least _ h.eP;rw[h'.worth] at a;rw[h.worth] at b;grind
theorem eH.pB(h:eH P v x y)(h':cg P y'):False:=h'.none _ h.eP
theorem eH.iR(h:eH P v x y)(h':dY P x' d):False:=by
 obtain⟨z,hz,hv⟩:=h'.deep (v-1);have:=h.least _ hz;grind
theorem br.known{q:Nat}{X w:World}{u:Value}(h:br P q X w u)(hb:eH P v x y):∃ o1 m1 c1 o2 m2 c2,u = .agg #[.int .i64 1,.string (qs v),.slice o1 m1 c1,.slice o2 m2 c2,.slice none 0 0]:=by
 rcases h with⟨val,x1,y1,vp,vd,rfl,h2,h3,h4,h5,h6,h7⟩|⟨y1,vd,rfl,h2,h3,h4⟩|⟨x1,d1,vp,vd,rfl,h2,h3,h4,h5,h6⟩
 ·obtain⟨a,c,rfl⟩:=h6.cH;obtain⟨a',c',rfl⟩:=h7.cH;rw[h2.unique hb];exact⟨_,_,_,_,_,_,rfl⟩
 ·exact(hb.pB h2).elim
 ·exact(hb.iR h2).elim
theorem uJ.known{k q:Nat}{w w':World}{e:Ending}(h:uJ P k q w e w')(h1:eH (P.unit k 1) v x y)(h2:eH (P.unit k (-1)) v' x' y'):e = .returned (.tuple #[.string (qs v),.string (qs (-v')),.int .i64 0])/\Ext w w':=by
 obtain⟨he,h|⟨lo,hi,rfl,ha,hb⟩⟩:=h
 ·obtain⟨_,z,hz⟩:=h;exact(h1.pB (y':=z) ⟨hz.pos,hz.comb,hz.neg⟩).elim
 ·refine⟨?_,he⟩;rcases ha with⟨z,⟨_,_,hz⟩,_,rfl⟩|⟨⟨_,_,hf⟩,_⟩
  ·rcases hb with⟨z2,⟨_,_,hz2⟩,_,rfl⟩|⟨⟨_,_,hf⟩,_⟩
   ·rw[hz.unique h1,hz2.unique h2]
   ·exact(h2.iR hf).elim
  ·exact(h1.iR hf).elim
end
def jy(b0 b1:Rat):LP:=⟨1,2,fun i _=>if i=0 then 1 else -1,fun i=>if i=0 then b0 else b1,fun _=>1⟩
theorem eE{p:Nat->Prop}(h0:p 0)(h1:p 1):∀ i,i<2->p i:=fun i hi=>by
 rcases (by omega:i=0∨i=1) with rfl|rfl
 ·exact h0
 ·exact h1
theorem gq{p:Nat->Prop}(h0:p 0):∀ i,i<1->p i:=fun i hi=>by
 obtain rfl:i=0:=ae;exact h0
def wJ(a:Rat):Nat->Rat:=fun _=>a
def mQ(a b:Rat):Nat->Rat:=fun i=>if i=0 then a else b
theorem AT:eH (jy 3 (-1)) 1 (wJ 1) (mQ 0 1) :=
 ⟨eE (by simp[aN,jy,wJ] <;> grind) (by simp[aN,jy,wJ] <;> grind),eE (by simp[mQ] <;> grind) (by simp[mQ] <;> grind),gq (by simp[LP.comb,aN,jy,mQ] <;> grind),by simp[LP.ib,aN,jy,mQ] <;> grind,by simp[LP.obj,aN,jy,wJ] <;> grind⟩
theorem Cw:eH ((jy 3 (-1)).unit 0 1) 1 (wJ 1) (mQ 0 1) :=
 ⟨eE (by simp[aN,jy,wJ] <;> grind) (by simp[aN,jy,wJ] <;> grind),eE (by simp[mQ] <;> grind) (by simp[mQ] <;> grind),gq (by simp[LP.comb,aN,jy,mQ] <;> grind),by simp[LP.ib,aN,jy,mQ] <;> grind,by simp[LP.obj,aN,jy,wJ] <;> grind⟩
theorem AS:eH ((jy 3 (-1)).unit 0 (-1)) (-3) (wJ 3) (mQ 1 0) :=
 ⟨eE (by simp[aN,jy,wJ] <;> grind) (by simp[aN,jy,wJ] <;> grind),eE (by simp[mQ] <;> grind) (by simp[mQ] <;> grind),gq (by simp[LP.comb,aN,jy,mQ] <;> grind),by simp[LP.ib,aN,jy,mQ] <;> grind,by simp[LP.obj,aN,jy,wJ] <;> grind⟩
theorem sO:cg (jy 1 (-2)) (mQ 1 1) :=
 ⟨eE (by simp[mQ] <;> grind) (by simp[mQ] <;> grind),gq (by simp[LP.comb,aN,jy,mQ] <;> grind),by simp[LP.ib,aN,jy,mQ] <;> grind⟩
theorem yQ{b0 b1:Rat}(h0:ZB 54 (2*b0))(h1:ZB 54 (2*b1)):Sm (jy b0 b1) :=
 ⟨by show 1<=3;decide,by show 2<=6;decide,eE (gq ⟨2,by simp[jy] <;> grind,af⟩) (gq ⟨-2,by simp[jy] <;> grind,af⟩),eE h0 h1,gq ⟨2,by simp[jy] <;> grind,af⟩⟩
theorem yR {w:World} {b1 b2 b3 b4:Nat} {r0 r1:Rat} {x0 x1:ByteArray} (e0:qs r0=x0) (e1:qs r1=x1) (h1:ax w b1 #[.string ⟨#[49]⟩] 34) (h2:ax w b2 #[.string ⟨#[45,49]⟩] 34)
    (h3:ax w b3 #[.slice (some ⟨b1,0,none⟩) 1 1,.string x0,.slice (some ⟨b2,0,none⟩) 1 1,.string x1] 97) (h4:ax w b4 #[.string ⟨#[49]⟩] 34) :
    PM (jy r0 r1) w (.slice (some ⟨b3,0,none⟩) 2 2) (.slice (some ⟨b4,0,none⟩) 1 1) (fun i=>if i=0 then .slice (some ⟨b1,0,none⟩) 1 1 else .slice (some ⟨b2,0,none⟩) 1 1):=by
 subst e0 e1;refine⟨⟨some ⟨b3,0,none⟩,2,rfl,Nat.le_refl _,af,?_⟩,?_,?_⟩
 ·exact eE ⟨b3,0,rfl,h3.cell 0 rfl,h3.cell 1 rfl⟩ ⟨b3,0,rfl,h3.cell 2 rfl,h3.cell 3 rfl⟩
 ·refine eE ?_ ?_
  ·exact Rd.aF h1 (Nat.le_refl _) af (gq (by show _=some (Value.string (qs 1));rw[eS];rfl))
  ·exact Rd.aF h2 (Nat.le_refl _) af (gq (by show _=some (Value.string (qs (-1)));rw[jM];rfl))
 ·exact Rd.aF h4 (Nat.le_refl _) af (gq (by show _=some (Value.string (qs 1));rw[eS];rfl))
theorem Dz:qs (-2)=⟨#[45,50]⟩:=by
 have:=jk (q:=2) af;rw[← this];have e:=po 2;rw[show((2:Int):Rat)=2 by rfl] at e;rw[e];unfold zs;rw[bI af];show(⟨#[45]⟩:ByteArray) ++ ⟨(Lib.decDigits 2).toArray⟩=_;rw[Lib.decDigits,dif_pos af];rfl
theorem Cb:qs (- -3)=⟨#[51]⟩:=by rw[show(- -3:Rat)=3 by grind];exact mg
theorem sN{w:World}{vr vc:Value}{va:Nat->Value}{b:Nat}(g:Gd w)(hP:PM (jy 1 (-2)) w vr vc va)(hB:ax w b #[.string ⟨#[49]⟩,.string ⟨#[49]⟩] 34):Calls prog 59 #[.agg #[.int .i64 ((1:Nat):Int),vr,vc],.agg #[.slice (some ⟨b,0,none⟩) 2 2]] w (aR w (.int .i64 0)):=by
 have S:Sm (jy 1 (-2)):=yQ ⟨2,by grind,af⟩ ⟨-4,by grind,af⟩;have hy:∀ i,i<2->QB 1 (mQ 1 1 i):=eE BE BE;have ht:Rs w (.slice (some ⟨b,0,none⟩) 2 2) 2 (fun i=>qs (mQ 1 1 i)):=Rd.aF hB (Nat.le_refl _) af (eE (by show _=some (Value.string (qs 1));rw[eS];rfl) (by show _=some (Value.string (qs 1));rw[eS];rfl));have:=sA (jy 1 (-2)) vr vc va 2 w g hP _ 2 _ 20 ht (fun i hi=>((hy i hi).mono af).sz (q:=20) af) af (fun i hi _=>⟨_,rfl,(hy i hi).mono af⟩) af af S.qb S.pq af af af af S.qa;rwa[show zO (jy 1 (-2)) (fun i=>qs (mQ 1 1 i)) 2=0 by rw[zO,if_neg (fun h'=>h' (pF (m:=2) (fun i hi=>(hy i hi).mono af) sO.pos)),lH,if_pos ⟨sO.neg,sO.comb⟩]] at this
theorem Bq:ZB 54 (2*(3:Rat)):=⟨6,by grind,af⟩
theorem yP:ZB 54 (2*(-1:Rat)):=⟨-2,by grind,af⟩
theorem yO(w:World)(g:Gd w):Calls prog 18 #[] w (aR w (.bool true)):=by
 have HG:=aj g;clear g;go_enter func18,ntmps18;go_wp2_with fail;refine(yw (HG.o.ext (((((((Ext.refl w).alloc _).alloc _).alloc _).alloc _).alloc _))) (yR (r0:=3) (r1:=-1) mg jM (((((ax.nw (#[.string ⟨#[49]⟩]) 34).alloc _).alloc _).alloc _).alloc _) ((((ax.nw (#[.string ⟨#[45,49]⟩]) 34).alloc _).alloc _).alloc _) (((ax.nw (#[.slice (some ⟨w.heap.size,0,none⟩) 1 1,.string ⟨#[51]⟩,.slice (some ⟨w.heap.size+1,0,none⟩) 1 1,.string ⟨#[45,49]⟩]) 97).alloc _).alloc _) ((ax.nw (#[.string ⟨#[49]⟩]) 34).alloc _)) (yQ Bq yP)).mono ?_;rintro e w1 ⟨v_,rfl,e1,sv_⟩;have HX1:Hid (Ext w w1):=aj (((((((Ext.refl w).alloc _).alloc _).alloc _).alloc _).alloc _).trans e1);have HB0_1:Hid (ax w1 (w.heap.size) (#[.string ⟨#[49]⟩]) 34):=aj (((((((ax.nw (#[.string ⟨#[49]⟩]) 34).alloc _).alloc _).alloc _).alloc _)).ext e1);have HB1_1:Hid (ax w1 (w.heap.size+1) (#[.string ⟨#[45,49]⟩]) 34):=aj ((((((ax.nw (#[.string ⟨#[45,49]⟩]) 34).alloc _).alloc _).alloc _)).ext e1);have HB2_1:Hid (ax w1 (w.heap.size+1+1) (#[.slice (some ⟨w.heap.size,0,none⟩) 1 1,.string ⟨#[51]⟩,.slice (some ⟨w.heap.size+1,0,none⟩) 1 1,.string ⟨#[45,49]⟩]) 97):=aj (((((ax.nw (#[.slice (some ⟨w.heap.size,0,none⟩) 1 1,.string ⟨#[51]⟩,.slice (some ⟨w.heap.size+1,0,none⟩) 1 1,.string ⟨#[45,49]⟩]) 97).alloc _).alloc _)).ext e1);have HB3_1:Hid (ax w1 (w.heap.size+1+1+1) (#[.string ⟨#[49]⟩]) 34):=aj ((((ax.nw (#[.string ⟨#[49]⟩]) 34).alloc _)).ext e1);have HB4_1:Hid (ax w1 (w.heap.size+1+1+1+1) (#[.int .i64 1,.slice (some ⟨w.heap.size+1+1,0,none⟩) 2 2,.slice (some ⟨w.heap.size+1+1+1,0,none⟩) 1 1]) 32):=aj (((ax.nw (#[.int .i64 1,.slice (some ⟨w.heap.size+1+1,0,none⟩) 2 2,.slice (some ⟨w.heap.size+1+1+1,0,none⟩) 1 1]) 32)).ext e1);have HGEB0:Hid (w.heap.size<=w.heap.size):=aj (Nat.le_refl _);have HGEB1:Hid (w.heap.size<=w.heap.size+1):=aj ae;have HGEB2:Hid (w.heap.size<=w.heap.size+1+1):=aj ae;have HGEB3:Hid (w.heap.size<=w.heap.size+1+1+1):=aj ae;have HGEB4:Hid (w.heap.size<=w.heap.size+1+1+1+1):=aj ae;clear e1;obtain⟨p1,p2,p3,p4,p5,p6,rfl⟩:=sv_.known AT;clear sv_;rw[eS];go_upto_region 3 with fail
 refine ay (fun W=>Ext w W/\ax W (w.heap.size) (#[.string ⟨#[49]⟩]) 34/\ax W (w.heap.size+1) (#[.string ⟨#[45,49]⟩]) 34/\ax W (w.heap.size+1+1) (#[.slice (some ⟨w.heap.size,0,none⟩) 1 1,.string ⟨#[51]⟩,.slice (some ⟨w.heap.size+1,0,none⟩) 1 1,.string ⟨#[45,49]⟩]) 97/\ax W (w.heap.size+1+1+1) (#[.string ⟨#[49]⟩]) 34/\ax W (w.heap.size+1+1+1+1) (#[.int .i64 1,.slice (some ⟨w.heap.size+1+1,0,none⟩) 2 2,.slice (some ⟨w.heap.size+1+1+1,0,none⟩) 1 1]) 32/\ax W (w1.heap.size) (#[.int .i64 1,.string ⟨#[49]⟩,.slice p1 p2 p3,.slice p4 p5 p6,.slice none 0 0]) 38) ⟨(HX1.o.alloc _),(HB0_1.o.alloc _),(HB1_1.o.alloc _),(HB2_1.o.alloc _),(HB3_1.o.alloc _),(HB4_1.o.alloc _),(ax.nw (#[.int .i64 1,.string ⟨#[49]⟩,.slice p1 p2 p3,.slice p4 p5 p6,.slice none 0 0]) 38)⟩ ?_;rintro w2 ⟨e2,bB0_2,bB1_2,bB2_2,bB3_2,bB4_2,bB5_2⟩;have HX2:=aj e2;have HB0_2:=aj bB0_2;have HB1_2:=aj bB1_2;have HB2_2:=aj bB2_2;have HB3_2:=aj bB3_2;have HB4_2:=aj bB4_2;have HB5_2:=aj bB5_2;have HGEB5:Hid (w.heap.size<=w1.heap.size):=aj (HX1.o.size);clear e2 bB0_2 bB1_2 bB2_2 bB3_2 bB4_2 bB5_2;have c4_0:=HB4_2.o.cell 0 rfl;have c4_1:=HB4_2.o.cell 1 rfl;have c4_2:=HB4_2.o.cell 2 rfl;go_wp2_with fail;refine(xS (HG.o.ext (HX2.o)) (yR (r0:=3) (r1:=-1) mg jM HB0_2.o HB1_2.o HB2_2.o HB3_2.o) (yQ Bq yP) 0 (by show 0<1;decide)).mono ?_;rintro e w3 h_;obtain⟨rfl,e3⟩:=h_.known Cw AS;clear h_;rw[eS,Cb];have HX3:=aj (HX2.o.trans e3);have HB0_3:=aj (HB0_2.o.ext e3);have HB1_3:=aj (HB1_2.o.ext e3);have HB2_3:=aj (HB2_2.o.ext e3);have HB3_3:=aj (HB3_2.o.ext e3);have HB4_3:=aj (HB4_2.o.ext e3);have HB5_3:=aj (HB5_2.o.ext e3);clear e3 c4_0 c4_1 c4_2;have c4x_:=(((HB4_3.o.alloc (.cells #[.string ⟨#[49]⟩] 34)).alloc (.cells #[.string ⟨#[45,49]⟩] 34)).alloc (.cells #[.slice (some ⟨w3.heap.size,0,none⟩) 1 1,.string ⟨#[49]⟩,.slice (some ⟨w3.heap.size+1,0,none⟩) 1 1,.string ⟨#[45,50]⟩] 97)).cell 1 rfl;have f4x_:=(((HB4_3.o.alloc (.cells #[.string ⟨#[49]⟩] 34)).alloc (.cells #[.string ⟨#[45,49]⟩] 34)).alloc (.cells #[.slice (some ⟨w3.heap.size,0,none⟩) 1 1,.string ⟨#[49]⟩,.slice (some ⟨w3.heap.size+1,0,none⟩) 1 1,.string ⟨#[45,50]⟩] 97)).free 1;have c4_1:=HB4_3.o.cell 1 rfl;have f4_1:=HB4_3.o.free 1;go_upto_region 5 with fail
 refine ay (fun W=>Ext w W/\ax W (w.heap.size+1+1+1) (#[.string ⟨#[49]⟩]) 34/\ax W (w.heap.size+1+1+1+1) (#[.int .i64 1,.slice (some ⟨w3.heap.size+1+1,0,none⟩) 2 2,.slice (some ⟨w.heap.size+1+1+1,0,none⟩) 1 1]) 32/\ax W (w1.heap.size) (#[.int .i64 1,.string ⟨#[49]⟩,.slice p1 p2 p3,.slice p4 p5 p6,.slice none 0 0]) 38/\ax W (w3.heap.size) (#[.string ⟨#[49]⟩]) 34/\ax W (w3.heap.size+1) (#[.string ⟨#[45,49]⟩]) 34/\ax W (w3.heap.size+1+1) (#[.slice (some ⟨w3.heap.size,0,none⟩) 1 1,.string ⟨#[49]⟩,.slice (some ⟨w3.heap.size+1,0,none⟩) 1 1,.string ⟨#[45,50]⟩]) 97) ⟨((((HX3.o.alloc _).alloc _).alloc _).setCell (HGEB4.o) _),((((HB3_3.o.alloc _).alloc _).alloc _).other (a:=⟨w.heap.size+1+1+1+1,1,none⟩) _ ah),((((HB4_3.o.alloc _).alloc _).alloc _).set 1 (.slice (some ⟨w3.heap.size+1+1,0,none⟩) 2 2)),((((HB5_3.o.alloc _).alloc _).alloc _).other (a:=⟨w.heap.size+1+1+1+1,1,none⟩) _ (Nat.ne_of_gt HB4_1.o.lt)),((((ax.nw (#[.string ⟨#[49]⟩]) 34).alloc _).alloc _).other (a:=⟨w.heap.size+1+1+1+1,1,none⟩) _ (Nat.ne_of_gt HB4_3.o.lt)),(((ax.nw (#[.string ⟨#[45,49]⟩]) 34).alloc _).other (a:=⟨w.heap.size+1+1+1+1,1,none⟩) _ (by have:=HB4_3.o.lt;first|omega|(simp only[];omega)|(simp;omega))),((ax.nw (#[.slice (some ⟨w3.heap.size,0,none⟩) 1 1,.string ⟨#[49]⟩,.slice (some ⟨w3.heap.size+1,0,none⟩) 1 1,.string ⟨#[45,50]⟩]) 97).other (a:=⟨w.heap.size+1+1+1+1,1,none⟩) _ (by have:=HB4_3.o.lt;first|omega|(simp only[];omega)|(simp;omega)))⟩ ?_;rintro w4 ⟨e4,bB3_4,bB4_4,bB5_4,bB6_4,bB7_4,bB8_4⟩;have HX4:=aj e4;have HB3_4:=aj bB3_4;have HB4_4:=aj bB4_4;have HB5_4:=aj bB5_4;have HB6_4:=aj bB6_4;have HB7_4:=aj bB7_4;have HB8_4:=aj bB8_4;have HGEB6:Hid (w.heap.size<=w3.heap.size):=aj (HX3.o.size);have HGEB7:Hid (w.heap.size<=w3.heap.size+1):=aj (Nat.le_succ_of_le HX3.o.size);have HGEB8:Hid (w.heap.size<=w3.heap.size+1+1):=aj (Nat.le_succ_of_le (Nat.le_succ_of_le HX3.o.size));clear e4 bB3_4 bB4_4 bB5_4 bB6_4 bB7_4 bB8_4 c4_1 f4_1;have c4_0:=HB4_4.o.cell 0 rfl;have c4_1:=HB4_4.o.cell 1 rfl;have c4_2:=HB4_4.o.cell 2 rfl;go_wp2_with fail;refine cto (sN (HG.o.ext ((HX4.o.alloc _))) (yR (r0:=1) (r1:=-2) eS Dz (HB6_4.o.alloc _) (HB7_4.o.alloc _) (HB8_4.o.alloc _) (HB3_4.o.alloc _)) (ax.nw (#[.string ⟨#[49]⟩,.string ⟨#[49]⟩]) 34)) fun w5 e5=>?_
 have HX5:Hid (Ext w w5):=aj ((HX4.o.alloc _).trans e5);have HB3_5:Hid (ax w5 (w.heap.size+1+1+1) (#[.string ⟨#[49]⟩]) 34):=aj (((HB3_4.o.alloc _)).ext e5);have HB5_5:Hid (ax w5 (w1.heap.size) (#[.int .i64 1,.string ⟨#[49]⟩,.slice p1 p2 p3,.slice p4 p5 p6,.slice none 0 0]) 38):=aj (((HB5_4.o.alloc _)).ext e5);have HB6_5:Hid (ax w5 (w3.heap.size) (#[.string ⟨#[49]⟩]) 34):=aj (((HB6_4.o.alloc _)).ext e5);have HB7_5:Hid (ax w5 (w3.heap.size+1) (#[.string ⟨#[45,49]⟩]) 34):=aj (((HB7_4.o.alloc _)).ext e5);have HB8_5:Hid (ax w5 (w3.heap.size+1+1) (#[.slice (some ⟨w3.heap.size,0,none⟩) 1 1,.string ⟨#[49]⟩,.slice (some ⟨w3.heap.size+1,0,none⟩) 1 1,.string ⟨#[45,50]⟩]) 97):=aj (((HB8_4.o.alloc _)).ext e5);have HB9_5:Hid (ax w5 (w4.heap.size) (#[.string ⟨#[49]⟩,.string ⟨#[49]⟩]) 34):=aj (((ax.nw (#[.string ⟨#[49]⟩,.string ⟨#[49]⟩]) 34)).ext e5);have HGEB9:Hid (w.heap.size<=w4.heap.size):=aj (HX4.o.size);clear e5 c4_0 c4_1 c4_2;have c5_0:=HB5_5.o.cell 0 rfl;have c5_1:=HB5_5.o.cell 1 rfl;go_wp2;go_ret;exact⟨rfl,HX5.o⟩
def Di(w:World)(wo:Option Addr)(m:Nat)(c:Nat->Nat->Int):Prop:=∀ i,i<m->∃ wa o,wo=some ⟨wa,o,none⟩/\∀ j,j<4->w.cell? ⟨wa,o+i*4+j,none⟩=some (.int .i8 (c i j))
theorem Di.ext{w w':World}{wo:Option Addr}{m:Nat}{c:Nat->Nat->Int}(h:Di w wo m c)(e:Ext w w'):Di w' wo m c:=fun i hi=>let ⟨wa,o,a,b⟩:=h i hi;⟨wa,o,a,fun j hj=>az e (b j hj)⟩
theorem AK (vv:Int) (m wcap:Nat) (wo:Option Addr) (c:Nat->Nat->Int) (o0 o1 o2:Int) (w:World) (g:Gd w) (hvr:0<=vv/\vv<=255) (hw:Di w wo m c) (hc:∀ i j,-128<=c i j/\c i j<=127) (h0:-128<=o0/\o0<=127) (h1:-128<=o1/\o1<=127) (h2:-128<=o2/\o2<=127) (hm:m<=6) :
    Calls prog 14 #[.agg #[.int .u8 vv,.slice wo m wcap,.int .i8 o0,.int .i8 o1,.int .i8 o2]] w (EU (ir (vv.tmod 4).toNat m c o0 o1 o2) w):=by
 have hb:0<=vv.tmod 4/\vv.tmod 4<=3:=by rw[Int.tmod_eq_emod_of_nonneg hvr.1];omega
 exact Cp vv m wcap wo c o0 o1 o2 w g (vv.tmod 4).toNat ae ae hvr hw hc h0 h1 h2 hm
theorem x9{vv:Int}{m:Nat}{c:Nat->Nat->Int}{o0 o1 o2:Int}(hvr:0<=vv/\vv<=255)(hm:m<=6):Sm (ir (vv.tmod 4).toNat m c o0 o1 o2) :=
 tQ (by rw[Int.tmod_eq_emod_of_nonneg hvr.1];omega) hm
theorem ux(vv:Int)(m wcap:Nat)(wo:Option Addr)(o0 o1 o2:Int)(w:World):Calls prog 13 #[.agg #[.int .u8 vv,.slice wo m wcap,.int .i8 o0,.int .i8 o1,.int .i8 o2]] w (aR w (.bool (decide (m<=6)))):=by
 go_enter func13,ntmps13;by_cases h1:m<=6
 ·have h2:(m:Int)<=6:=ae;go_wp2;go_ret;exact⟨by first|rfl|(rw[decide_eq_true h1];rfl)|simp[h1],((Ext.refl w).alloc _)⟩
 ·have h2:¬ (m:Int)<=6:=ae;go_wp2;go_ret;exact⟨by first|rfl|(rw[decide_eq_false h1];rfl)|simp[h1],((Ext.refl w).alloc _)⟩
theorem Ah{s:ByteArray}(h:rq s=true):∃ q:Rat,s=qs q:=by
 obtain⟨q,hq,hn,hd⟩:=k7.1 h;refine⟨q,?_⟩;cases s with
 | mk d =>
  have:d.toList=ql q:=hq;unfold qs
  congr 1
  rw[← this]
theorem su{q:Rat}{k:Nat}(h:(qs q).size<=k):QB k q:=by
 rw[jK] at h;by_cases hd:q.den=1
 ·rw[dt hd] at h;refine⟨bK h,?_⟩;have:=List.length_pos_iff.2 (qh q.num);rw[hd];exact Nat.one_lt_pow ae af
 ·rw[cu hd,List.length_append,List.length_cons] at h;exact⟨bK ae,bN ae⟩
theorem Dc.short{t:Nat->ByteArray}{m r:Nat}(h:∀ i,i<m->(t i).size<=r):Dc t m r:=fun i hi hr=>by
 obtain⟨q,hq⟩:=Ah hr;have:=h i hi;rw[hq] at this;exact⟨q,hq,su this⟩
theorem nO.short{w:World}{v:Value}{m:Nat}{t:Nat->ByteArray}(h:Rs w v m t)(hs:∀ i,i<m->(t i).size<=20)(hm:m<=1000):nO w v m t:=⟨h,fun i hi=>Nat.le_trans (hs i hi) af,hm,Dc.short hs⟩
section
variable {P:LP} {v u:Rat} {x y d z:Nat->Rat}
abbrev LP.three(P:LP):LP:={ P with C:=fun k=>3*P.C k }
abbrev LP.less(P:LP)(m:Nat):LP:={ P with m:=m }
theorem n6(x:Nat->Rat):P.three.obj x=3*P.obj x:=by
 show aN P.n (fun k=>3*P.C k*x k)=_;rw[LP.obj,← aX];exact aM fun k _=>by grind
theorem eH.three(h:eH P v x y):eH P.three (3*v) x (fun i=>3*y i):=by
 refine⟨h.eP,fun i hi=>by have:=h.pos i hi;grind,fun k hk=>?_,?_,by rw[n6,h.worth]⟩
 ·have e:P.three.comb (fun i=>3*y i) k=3*P.comb y k:=by
   show aN P.m (fun i=>3*y i*P.A i k)=_;rw[LP.comb,← aX];exact aM fun i _=>by grind
  rw[e,h.comb k hk];show 3 * -P.C k=-(3*P.C k);grind
 ·have e:P.three.ib (fun i=>3*y i)=3*P.ib y:=by
   show aN P.m (fun i=>3*y i*P.B i)=_;rw[LP.ib,← aX];exact aM fun i _=>by grind
  rw[e,h.ib];grind
theorem cg.three(h:cg P y):cg P.three y:=⟨h.pos,h.comb,h.neg⟩
theorem dY.three(h:dY P x d):dY P.three x d:=⟨h.eP,h.row,by rw[n6];have:=h.worth;grind⟩
theorem dY.less{m:Nat}(h:dY P x d)(hm:m<=P.m):dY (P.less m) x d:=⟨fun i hi=>h.eP i (Nat.lt_of_lt_of_le hi hm),fun i hi=>h.row i (Nat.lt_of_lt_of_le hi hm),h.worth⟩
def rS(kd:Int)(val:ByteArray)(v:Value):Prop:=∃ o1 m1 c1 o2 m2 c2 o3 m3 c3,v = .agg #[.int .i64 kd,.string val,.slice o1 m1 c1,.slice o2 m2 c2,.slice o3 m3 c3]
theorem br.BI{q:Nat}{X w:World}{r:Value}(h:br P q X w r):(∃ v x y,eH P v x y/\QB q v/\rS 1 (qs v) r)∨(∃ y,cg P y/\rS 2 ⟨#[]⟩ r)∨(∃ x d,dY P x d/\rS 3 ⟨#[]⟩ r):=by
 rcases h with⟨val,x,y,vp,vd,rfl,h2,h3,h4,h5,h6,h7⟩|⟨y,vd,rfl,h2,h3,h4⟩|⟨x,d,vp,vd,rfl,h2,h3,h4,h5,h6⟩
 ·obtain⟨a,c,rfl⟩:=h6.cH;obtain⟨a',c',rfl⟩:=h7.cH;exact Or.inl ⟨val,x,y,h2,h3,_,_,_,_,_,_,_,_,_,rfl⟩
 ·obtain⟨a,c,rfl⟩:=h4.cH;exact Or.inr (Or.inl ⟨y,h2,_,_,_,_,_,_,_,_,_,rfl⟩)
 ·obtain⟨a,c,rfl⟩:=h5.cH;obtain⟨a',c',rfl⟩:=h6.cH;exact Or.inr (Or.inr ⟨x,d,h2,_,_,_,_,_,_,_,_,_,rfl⟩)
def E8(ra rb rc:Value):Prop :=
 (∃ v u:Rat,u<=v/\QB 17 v/\QB 17 u/\rS 1 (qs v) ra/\rS 1 (qs u) rb/\rS 1 (qs (3*v)) rc) ∨
 (∃ v:Rat,QB 17 v/\rS 1 (qs v) ra/\rS 3 ⟨#[]⟩ rb/\rS 1 (qs (3*v)) rc) ∨
 (rS 2 ⟨#[]⟩ ra/\(∃ kd val,(kd=1∨kd=2∨kd=3)/\rS kd val rb)/\rS 2 ⟨#[]⟩ rc) ∨
 (rS 3 ⟨#[]⟩ ra/\rS 3 ⟨#[]⟩ rb/\rS 3 ⟨#[]⟩ rc)
theorem ET{m:Nat}(hm:m<=P.m){Xa wa Xb wb Xc wc:World}{ra rb rc:Value}(ha:br P 17 Xa wa ra)(hb:br (P.less m) 17 Xb wb rb)(hc:br P.three 17 Xc wc rc):E8 ra rb rc:=by
 have lf:∀ {x},P.eP x->(P.less m).eP x:=fun h i hi=>h i (Nat.lt_of_lt_of_le hi hm)
 rcases ha.BI with⟨v,x,y,h1,hq,s1⟩|⟨y,h1,s1⟩|⟨x,d,h1,s1⟩
 ·have s3:rS 1 (qs (3*v)) rc:=by
   rcases hc.BI with⟨u,x',y',h3,_,s3⟩|⟨y',h3,s3⟩|⟨x',d',h3,s3⟩
   ·rw[← h3.unique h1.three];exact s3
   ·exact(h1.three.pB h3).elim
   ·exact(h1.three.iR h3).elim
  rcases hb.BI with⟨u,x',y',h2,hq2,s2⟩|⟨y',h2,s2⟩|⟨x',d',h2,s2⟩
  ·refine Or.inl ⟨v,u,?_,hq,hq2,s1,s2,s3⟩;have:=h2.least x (lf h1.eP);rw[show(P.less m).obj x=P.obj x from rfl,h1.worth] at this;exact this
  ·exact(h2.none x (lf h1.eP)).elim
  ·exact Or.inr (Or.inl ⟨v,hq,s1,s2,s3⟩)
 ·refine Or.inr (Or.inr (Or.inl ⟨s1,?_,?_⟩))
  ·rcases hb.BI with⟨_,_,_,_,_,s2⟩|⟨_,_,s2⟩|⟨_,_,_,s2⟩
   ·exact⟨_,_,Or.inl rfl,s2⟩
   ·exact⟨_,_,Or.inr (Or.inl rfl),s2⟩
   ·exact⟨_,_,Or.inr (Or.inr rfl),s2⟩
  ·rcases hc.BI with⟨u,x',y',h3,_,s3⟩|⟨y',h3,s3⟩|⟨x',d',h3,s3⟩
   ·exact(h3.pB h1.three).elim
   ·exact s3
   ·exact(h1.none x' h3.eP).elim
 ·refine Or.inr (Or.inr (Or.inr ⟨s1,?_,?_⟩))
  ·rcases hb.BI with⟨u,x',y',h2,_,s2⟩|⟨y',h2,s2⟩|⟨x',d',h2,s2⟩
   ·exact(h2.iR (h1.less hm)).elim
   ·exact(h2.none x (lf h1.eP)).elim
   ·exact s2
  ·rcases hc.BI with⟨u,x',y',h3,_,s3⟩|⟨y',h3,s3⟩|⟨x',d',h3,s3⟩
   ·exact(h3.iR h1.three).elim
   ·exact(h3.none x h1.eP).elim
   ·exact s3
abbrev LP.some(P:LP)(m:Nat)(f:Nat->Nat):LP:={ P with m:=m,A:=fun i=>P.A (f i),B:=fun i=>P.B (f i) }
theorem Sm.some(h:Sm P){m:Nat}{f:Nat->Nat}(hm:m<=6)(hf:∀ j,j<m->f j<P.m):Sm (P.some m f):=⟨h.n,hm,fun i hi=>h.A _ (hf i hi),fun i hi=>h.B _ (hf i hi),h.C⟩
end
structure wF(w:World)(vv:Int)(m:Nat)(wo:Option Addr)(c:Nat->Nat->Int)(o0 o1 o2:Int):Prop where
 v:0<=vv/\vv<=255
 rows:Di w wo m c
 c:∀ i j,-128<=c i j/\c i j<=127
 o0:-128<=o0/\o0<=127
 o1:-128<=o1/\o1<=127
 o2:-128<=o2/\o2<=127
theorem wF.ext{w w':World}{vv:Int}{m:Nat}{wo:Option Addr}{c:Nat->Nat->Int}{o0 o1 o2:Int}(h:wF w vv m wo c o0 o1 o2)(e:Ext w w'):wF w' vv m wo c o0 o1 o2:=⟨h.v,h.rows.ext e,h.c,h.o0,h.o1,h.o2⟩
def E7(m:Nat)(w:World)(e:Ending)(w':World):Prop:=∃ (P:LP) (ro:Option Addr) (rcap:Nat) (co:Option Addr) (ccap:Nat) (va:Nat->Value),e = .returned (.agg #[.int .i64 (P.n:Int),.slice ro P.m rcap,.slice co P.n ccap])/\Ext w w'/\PM P w' (.slice ro P.m rcap) (.slice co P.n ccap) va/\Sm P/\P.m=m/\Sm P.three
theorem DI{w:World}{vv:Int}{m wcap:Nat}{wo:Option Addr}{c:Nat->Nat->Int}{o0 o1 o2:Int}(h:wF w vv m wo c o0 o1 o2)(g:Gd w)(hm:m<=6):Calls prog 14 #[.agg #[.int .u8 vv,.slice wo m wcap,.int .i8 o0,.int .i8 o1,.int .i8 o2]] w (E7 m w):=by
 refine(AK vv m wcap wo c o0 o1 o2 w g h.v h.rows h.c h.o0 h.o1 h.o2 hm).mono ?_;rintro e w' ⟨vr,vo,va,rfl,ew,pm⟩;have hs:Sm (ir (vv.tmod 4).toNat m c o0 o1 o2):=x9 h.v hm;have h3:Sm (ir (vv.tmod 4).toNat m c o0 o1 o2).three:=sD (by rw[Int.tmod_eq_emod_of_nonneg h.v.1];omega) hm;have hm':(ir (vv.tmod 4).toNat m c o0 o1 o2).m=m:=rfl;generalize ir (vv.tmod 4).toNat m c o0 o1 o2=P at pm hs hm' h3;have h1:=pm.obj;have h2:=pm.rows;obtain⟨co,ccap,ec_,_⟩:=h1;obtain⟨ro,rcap,er_,_,_,_⟩:=h2;subst er_ ec_;exact⟨P,ro,rcap,co,ccap,va,rfl,ew,pm,hs,hm',h3⟩
end Go.Proofs.YtmahadmefplbnaaGreatDoor
