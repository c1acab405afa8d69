/- Part 34. -/
import Derived.Test.YtmahadmefplbnaaGreatDoorQRV33
set_option maxRecDepth 100000
set_option maxHeartbeats 2000000
set_option linter.unusedSimpArgs false
set_option linter.unusedVariables false
theorem Go.Proofs.YtmahadmefplbnaaGreatDoor.Hi34 {p:Prop} (h:p):Go.RowKit.Hid p:=h
namespace Go.Proofs.YtmahadmefplbnaaGreatDoor
open Go Go.RowKit
structure MR (w:World) (n k:Nat) (vr vo:Value) (RG C vf:Nat->Value) (F:Nat->Nat->Value) (W:World):Prop where
 rows:Osl w W 97 2 vr k RG
 obj:Osl w W 34 1 vo n C
 fac:∀ i,i<k->Osl w W 34 1 (vf i) n (F i)
def MD (k:Nat) (vr vo:Value) (vf:Nat->Value) (q:Nat):Prop:=vob vr q∨vob vo q∨∃ i,i<k/\vob (vf i) q
section
variable {w W W':World} {n k:Nat} {vr vo:Value} {RG C vf:Nat->Value} {F:Nat->Nat->Value}
theorem MR.ext (h:MR w n k vr vo RG C vf F W) (e:Ext W W'):MR w n k vr vo RG C vf F W':=⟨h.rows.ext e,h.obj.ext e,fun i hi=>(h.fac i hi).ext e⟩
theorem MR.alloc (h:MR w n k vr vo RG C vf F W) (o:Obj):MR w n k vr vo RG C vf F (W.alloc o):=h.ext ((Ext.refl _).alloc o)
theorem MR.drew (h:MR w n k vr vo RG C vf F W):MR w n k vr vo RG C vf F W.drew:=h.ext (Ext.refl _).drew
theorem MR.mv {Y:World} {S:Nat->Prop} (h:MR w n k vr vo RG C vf F W) (m:Mv Y W S W') (hs:∀ q,MD k vr vo vf q->¬ S q):MR w n k vr vo RG C vf F W' :=
 ⟨h.rows.mv m (fun q a=>hs q (Or.inl a)),h.obj.mv m (fun q a=>hs q (Or.inr (Or.inl a))),fun i hi=>(h.fac i hi).mv m (fun q a=>hs q (Or.inr (Or.inr ⟨i,hi,a⟩)))⟩
theorem MR.other (h:MR w n k vr vo RG C vf F W) {a:Addr} (u:Value) (hk:∀ q,MD k vr vo vf q->q≠a.block):MR w n k vr vo RG C vf F (W.setCell a u) :=
 ⟨h.rows.other u (fun v=>hk _ (Or.inl v) rfl),h.obj.other u (fun v=>hk _ (Or.inr (Or.inl v)) rfl),fun i hi=>(h.fac i hi).other u (fun v=>hk _ (Or.inr (Or.inr ⟨i,hi,v⟩)) rfl)⟩
theorem MR.lt (h:MR w n k vr vo RG C vf F W):∀ q,MD k vr vo vf q->w.heap.size<=q/\q<W.heap.size:=fun q d=>d.elim (fun a=>h.rows.lt a) (fun d=>d.elim (fun a=>h.obj.lt a) (fun ⟨i,hi,a⟩=>(h.fac i hi).lt a))
theorem MR.ne (h:MR w n k vr vo RG C vf F W) {b:Nat} (hb:W.heap.size<=b):∀ q,MD k vr vo vf q->q≠b:=fun q d e=>by have:=(h.lt q d).2;omega
theorem MR.apb (h:MR w n k vr vo RG C vf F W) {b:Nat} {D:Array Value} {t:TypeId} (hB:Blk W b D t) (h2:97≠t) (h3:34≠t):∀ q,MD k vr vo vf q->q≠b:=fun q d e=>by
 subst e;rcases d with d|d|⟨i,hi,d⟩
 ·exact h.rows.not_vob hB h2 d
 ·exact h.obj.not_vob hB h3 d
 ·exact (h.fac i hi).not_vob hB h3 d
theorem MR.push {x y vr' : Value} {vg : Nat -> Value} (h : MR w n k vr vo RG C vf F W) (hA : App w W 97 2 vr k 1 RG (fun i => if i = 0 then x else y) vr' W') (hx : Osl w W 34 1 x n (F k)) (hg : vg k = x) (hg2 : ∀ i, i < k -> vg i = vf i) :
    MR w n (k+1) vr' vo (app (k*2) RG (fun i=>if i=0 then x else y)) C vg F W':=by
 refine ⟨hA.own,h.obj.mv hA.mv (fun q hq hv=>(h.rows.apart h.obj (by decide)) q hv hq),fun i hi=>?_⟩;by_cases e:i=k
 ·rw [e,hg];exact hx.mv hA.mv (fun q hq hv=>(h.rows.apart hx (by decide)) q hv hq)
 ·rw [hg2 i (by omega)];exact (h.fac i (by omega)).mv hA.mv (fun q hq hv=>(h.rows.apart (h.fac i (by omega)) (by decide)) q hv hq)
end
theorem under_r:Tryz.prog.underlying 29=some (.slice 97):=by kernel_rfl
theorem info_r:(Tryz.prog.info? 97).map (fun i=>(i.zero,i.size,i.bytes))=some (some (.agg #[.slice none 0 0,.string ⟨#[]⟩]),2,40):=by kernel_rfl
theorem rg_next {k:Nat} {RG vf vg G:Nat->Value} {x:Value} (h:∀ i,i<k->RG (i*2)=vf i/\RG (i*2+1)=G i) (hg:vg k=x) (hg2:∀ i,i<k->vg i=vf i) :
    ∀ i,i<k+1->app (k*2) RG (fun i=>if i=0 then x else G k) (i*2)=vg i/\app (k*2) RG (fun i=>if i=0 then x else G k) (i*2+1)=G i:=fun i hi=>by
 by_cases e:i=k
 ·subst e;rw [app_ge (by omega),app_ge (by omega),hg,if_pos (by omega),if_neg (by omega)];exact ⟨rfl,rfl⟩
 ·rw [app_lt (by omega),app_lt (by omega),hg2 i (by omega)];exact h i (by omega)
theorem MR.pm {w W:World} {vr vo:Value} {RG vf:Nat->Value} {P:LP} (h:MR w P.n P.m vr vo RG (fun j => .string (qs (P.C j))) vf (fun i j => .string (qs (P.A i j))) W) (hg:∀ i,i<P.m->RG (i*2)=vf i/\RG (i*2+1) = .string (qs (P.B i))):PM P W vr vo vf:=by
 refine ⟨?_,fun i hi=>(h.fac i hi).rd,h.obj.rd⟩;rcases h.rows with ⟨e1,e2⟩|⟨b,cap,D,e1,e2,e3,e4,e5,e6,e7⟩
 ·exact ⟨none,0,by rw [e1,e2],by omega,by unfold maxLen;omega,fun i hi=>by omega⟩
 ·refine ⟨some ⟨b,0,none⟩,cap,e1,e4,e5,fun i hi=>⟨b,0,rfl,?_,?_⟩⟩
  ·rw [Nat.zero_add];exact e3.cell _ (by rw [e7 _ (by omega),(hg i hi).1])
  ·rw [Nat.zero_add];exact e3.cell _ (by rw [e7 _ (by omega),(hg i hi).2])
def planP (n m:Nat) (c:Nat->Nat->Int) (o0 o1 o2:Int):LP:=⟨n,m,fun i j=>l3 ((c i 0).tmod 10) ((c i 1).tmod 10) ((c i 2).tmod 10) j,fun i=>mkRat ((c i 3).tmod 41) 2,fun j=>l3 (o0.tmod 10) (o1.tmod 10) (o2.tmod 10) j⟩
def MkP (P:LP) (w:World) (e:Ending) (w':World):Prop:=∃ vr vo va,e = .returned (.agg #[.int .i64 (P.n:Int),vr,vo])/\Ext w w'/\PM P w' vr vo va
theorem tmod41 (i:Int):-40<=i.tmod 41/\i.tmod 41<=40:=by
 have h:=Int.natAbs_tmod i 41;have:=Nat.mod_lt i.natAbs (y:=41) (by decide);simp only [show (41:Int).natAbs=41 from rfl] at h;omega
theorem list7_L (L:Nat) (hL:L<=3) (a0 a1 a2 d0 d1 d2:Int) (w:World) (g:Gd w) (h0:-128<=a0/\a0<=127) (e0:a0.tmod 10=d0) (h1:-128<=a1/\a1<=127) (e1:a1.tmod 10=d1) (h2:-128<=a2/\a2<=127) (e2:a2.tmod 10=d2):Calls Tryz.prog 45 #[.agg #[.int .i8 a0,.int .i8 a1,.int .i8 a2],.int .i64 (L:Int)] w (LstP w d0 d1 d2 L):=by
 rcases (by omega:L=0∨L=1∨L=2∨L=3) with rfl|rfl|rfl|rfl
 ·exact list7_n0 a0 a1 a2 d0 d1 d2 w g h0 e0 h1 e1 h2 e2
 ·exact list7_n1 a0 a1 a2 d0 d1 d2 w g h0 e0 h1 e1 h2 e2
 ·exact list7_n2 a0 a1 a2 d0 d1 d2 w g h0 e0 h1 e1 h2 e2
 ·exact list7_n3 a0 a1 a2 d0 d1 d2 w g h0 e0 h1 e1 h2 e2
theorem make_L (vv:Int) (m wcap:Nat) (wo:Option Addr) (c:Nat->Nat->Int) (o0 o1 o2:Int) (w:World) (g:Gd w) (nL:Nat) (hL:nL<=3) (hv:vv.tmod 4=(nL:Int)) (hvr:0<=vv/\vv<=255) (hw:∀ i,i<m->∃ wa o,wo=some ⟨wa,o,none⟩/\∀ j,j<4->w.cell? ⟨wa,o+i*4+j,none⟩=some (.int .i8 (c i j))) (hc:∀ i j,-128<=c i j/\c i j<=127) (h0_:-128<=o0/\o0<=127) (h1_:-128<=o1/\o1<=127) (h2_:-128<=o2/\o2<=127) (hm:m<=6):Calls Tryz.prog 14 #[.agg #[.int .u8 vv,.slice wo m wcap,.int .i8 o0,.int .i8 o1,.int .i8 o2]] w (MkP (planP nL m c o0 o1 o2) w):=by
 have HG:=Hi34 g;have HW:=Hi34 hw;have HCR:=Hi34 hc;clear g hw hc;have wL1:IntKind.u8.wrap (nL:Int)=nL:=IntWalk.u8_in _ (by omega);have wL2:IntKind.i64.wrap (nL:Int)=nL:=IntWalk.i64_in _ (by omega);have wk_:∀ k,IntKind.i64.wrap (c k 3)=c k 3:=fun k=>IntWalk.i64_in (c k 3) (by have:=HCR.out k 3;omega)
 go_enter Tryz.func14,Tryz.ntmps14;go_wp2_with fail;refine (list7_L nL hL o0 o1 o2 _ _ _ _ (HG.out.ext ((((Ext.refl w).alloc _).alloc _))) h0_ rfl h1_ rfl h2_ rfl).mono ?_;rintro e w1 ⟨v_,rfl,e1,ol_⟩;have olm_:=mv_osl (X:=w) e1 ol_ (((Ext.refl w).alloc _).alloc _).size;clear ol_;have HX1:Hid (Ext w w1):=Hi34 ((((Ext.refl w).alloc _).alloc _).trans e1);have HB0_1:Hid (Blk w1 (w.heap.size) (#[.int .u8 vv,.slice wo m wcap,.int .i8 o0,.int .i8 o1,.int .i8 o2]) 26):=Hi34 ((((Blk.nw (#[.int .u8 vv,.slice wo m wcap,.int .i8 o0,.int .i8 o1,.int .i8 o2]) 26).alloc _)).ext e1);have HB1_1:Hid (Blk w1 (w.heap.size+1) (#[.int .i64 0,.slice none 0 0,.slice none 0 0]) 32):=Hi34 (((Blk.nw (#[.int .i64 0,.slice none 0 0,.slice none 0 0]) 32)).ext e1);have HGEB0:Hid (w.heap.size<=w.heap.size):=Hi34 (Nat.le_refl _);have HGEB1:Hid (w.heap.size<=w.heap.size+1):=Hi34 (by omega);clear e1;obtain ⟨lo,lc,rfl⟩:=olm_.lsl;have HOV_1:=Hi34 olm_;clear olm_;go_wp2_with fail;refine wp_name (fun W=>Ext w W/\Blk W (w.heap.size) (#[.int .u8 vv,.slice wo m wcap,.int .i8 o0,.int .i8 o1,.int .i8 o2]) 26/\Blk W (w.heap.size+1) (#[.int .i64 0,.slice none 0 0,.slice none 0 0]) 32/\Osl w W 34 1 (.slice lo nL lc) nL ((l3G (o0.tmod 10) (o1.tmod 10) (o2.tmod 10)))/\Blk W (w1.heap.size) (#[.int .i64 (nL:Int),.slice none 0 0,.slice lo nL lc]) 32) ⟨(HX1.out.alloc _),(HB0_1.out.alloc _),(HB1_1.out.alloc _),(HOV_1.out.alloc _),(Blk.nw (#[.int .i64 (nL:Int),.slice none 0 0,.slice lo nL lc]) 32)⟩ ?_;rintro w2 ⟨e2,bB0_2,bB1_2,bOV_2,bB2_2⟩;have HX2:=Hi34 e2;have HB0_2:=Hi34 bB0_2;have HB1_2:=Hi34 bB1_2;have HOV_2:=Hi34 bOV_2;have HB2_2:=Hi34 bB2_2;have HGEB2:Hid (w.heap.size<=w1.heap.size):=Hi34 (HX1.out.size);clear e2 bB0_2 bB1_2 bOV_2 bB2_2;have HVOx:Hid (Osl w w2 34 1 (.slice lo nL lc) nL (l3G (o0.tmod 10) (o1.tmod 10) (o2.tmod 10))):=Hi34 HOV_2.out;go_wp2_with fail;go_loopw [5] (fun x0_ wx=>∃ k:Nat,x0_ = .int .i64 k/\k<=m/\Hid (Ext w wx/\Blk wx (w.heap.size) (#[.int .u8 vv,.slice wo m wcap,.int .i8 o0,.int .i8 o1,.int .i8 o2]) 26/\Blk wx (w.heap.size+1) (#[.int .i64 0,.slice none 0 0,.slice none 0 0]) 32/\(∃ vr RG vf,Blk wx (w1.heap.size) #[.int .i64 (nL:Int),vr,.slice lo nL lc] 32/\MR w nL k vr (.slice lo nL lc) RG (l3G (o0.tmod 10) (o1.tmod 10) (o2.tmod 10)) vf (fun i=>l3G ((c i 0).tmod 10) ((c i 1).tmod 10) ((c i 2).tmod 10)) wx/\∀ i,i<k->RG (i*2)=vf i/\RG (i*2+1)=(fun i => .string (qs (mkRat ((c i 3).tmod 41) 2))) i))) (fun x0_ _=>m-(intOf x0_).toNat)
 case atStart=>exact ⟨0,rfl,Nat.zero_le _,Hi34 ⟨HX2.out,HB0_2.out,HB1_2.out,⟨_,fun _ => .slice none 0 0,fun _ => .slice none 0 0,HB2_2.out,⟨Osl.nil _ _ _ _ _,HVOx.out,fun i hi=>absurd hi (Nat.not_lt_zero i)⟩,fun i hi=>absurd hi (Nat.not_lt_zero i)⟩⟩⟩
 case round =>
  rename World=>w3
  obtain ⟨k,rfl,hkk,HH⟩:=hrel;have HX3:=Hi34 HH.out.1;have HB0_3:=Hi34 HH.out.2.1;have HB1_3:=Hi34 HH.out.2.2.1;obtain ⟨vr,RG,vf,a1_,a2_,a3_⟩:=HH.out.2.2.2;obtain ⟨la,rc,rfl⟩:=a2_.rows.lsl;have HB2_3:=Hi34 a1_;have HMR_3:=Hi34 a2_;have HRG:=Hi34 a3_;clear a1_ a2_ a3_;clear HH;by_cases hlt:k<m
  ·have hlt2:(k:Int)<((m:Nat):Int):=by omega
   obtain ⟨wa,o_,rfl,zw_⟩:=HW.out k hlt;have z0_:=zw_ 0 (by decide);rw [Nat.add_zero] at z0_;have z1_:=zw_ 1 (by decide);have z2_:=zw_ 2 (by decide);have z3_:=zw_ 3 (by decide);have HC0:=Hi34 z0_;have HC1:=Hi34 z1_;have HC2:=Hi34 z2_;have HC3:=Hi34 z3_;clear zw_ z0_ z1_ z2_ z3_;have hk6:(k:Int)<6:=by omega
   have c0_1:=HB0_3.out.cell 1 rfl;go_wp2_with fail;clear c0_1;go_wp2_with fail;refine region_e [.val (.pointer (some ⟨w.heap.size,1,none⟩)),.val (.slice (some ⟨wa,o_,none⟩) m wcap),.val (.int .i64 (k:Int)),.val (.pointer (some ⟨wa,o_+k*4,none⟩)),.val (.pointer (some ⟨wa,o_+k*4,none⟩)),.val (.int .i8 (c k 0)),.val (.pointer (some ⟨w.heap.size,1,none⟩)),.val (.slice (some ⟨wa,o_,none⟩) m wcap),.val (.int .i64 (k:Int)),.val (.pointer (some ⟨wa,o_+k*4,none⟩)),.val (.pointer (some ⟨wa,o_+k*4+1,none⟩)),.val (.int .i8 (c k 1)),.val (.pointer (some ⟨w.heap.size,1,none⟩)),.val (.slice (some ⟨wa,o_,none⟩) m wcap),.val (.int .i64 (k:Int)),.val (.pointer (some ⟨wa,o_+k*4,none⟩)),.val (.pointer (some ⟨wa,o_+k*4+2,none⟩)),.val (.int .i8 (c k 2)),.val (.agg #[.int .i8 (c k 0),.int .i8 (c k 1),.int .i8 (c k 2)]),.eff,.eff] (fun L g W=>(L 19=true->∃ b,g 19 = .pointer (some ⟨b,0,none⟩)/\w3.heap.size<=b/\(if L 20=true then Blk W b #[.int .i8 (c k 0),.int .i8 (c k 1),.int .i8 (c k 2)] 24 else Blk W b #[.int .i8 0,.int .i8 0,.int .i8 0] 24))) (S:=fun _=>False) (by kernel_rfl) (by kernel_rfl) (by kernel_rfl) (Mv.refl HX3.out (fun k h=>h.elim)) ?_ ?_ ?_ ?_ (fun gv_ w4 hm_ he_=>?_)
   ·exact fun g=>fun h=>absurd h (by decide)
   ·exact fun L g W W1 h e=>fun a=>let ⟨b,x,y,z⟩:=h a;⟨b,x,y,ite_ext z (fun h=>h.ext e) (fun h=>h.ext e)⟩
   ·intro i v L g W hi h;have n19_:i≠19:=fun e=>by subst e;exact absurd (show false=true from hi) (by decide)
    have n20_:i≠20:=fun e=>by subst e;exact absurd (show false=true from hi) (by decide)
    simp only [up_ne n19_,ug_ne n19_,up_ne n20_,ug_ne n20_];exact h
   ·skip
    refine RI 1 (.pointer (some ⟨w.heap.size,0,none⟩))<|J2 (fun hs_=>hs_.val 0) (fun hs_=>(hs_.mv.blk HB0_3.out (fun h=>h)).cell 1 rfl)<|RI 5 (.int .i64 (k:Int))<|R2 1 2<|R1 3<|J2 (fun hs_=>hs_.val 4) (fun hs_=>keepA hs_.mv.ext (HC0.out))<|RI 1 (.pointer (some ⟨w.heap.size,0,none⟩))<|J2 (fun hs_=>hs_.val 6) (fun hs_=>(hs_.mv.blk HB0_3.out (fun h=>h)).cell 1 rfl)<|RI 5 (.int .i64 (k:Int))<|R2 7 8<|R1 9<|J2 (fun hs_=>hs_.val 10) (fun hs_=>keepA hs_.mv.ext (HC1.out))<|RI 1 (.pointer (some ⟨w.heap.size,0,none⟩))<|J2 (fun hs_=>hs_.val 12) (fun hs_=>(hs_.mv.blk HB0_3.out (fun h=>h)).cell 1 rfl)<|RI 5 (.int .i64 (k:Int))<|R2 13 14<|R1 15<|J2 (fun hs_=>hs_.val 16) (fun hs_=>keepA hs_.mv.ext (HC2.out))<|J3 (fun hs_=>hs_.val 5) (fun hs_=>hs_.val 11) (fun hs_=>hs_.val 17) ?_;refine RnEL.cons (fun L_ g_ A_ W_ hs_=>?_) ?_
    ·refine RnE.eff fun K_ hK_=>?_;have n20_:=hs_.no 20 (by decide) (by kernel_rfl);have n19_:=hs_.not;have e_:=hs_.e;simp only [n20_,n19_,Bool.false_eq_true,if_false,if_true] at e_;have HN_:=Hi34 (n20_);clear n20_ n19_;have HE_:=Hi34 e_;have HM_:=Hi34 hs_.mv;clear e_;go_simp;exact hK_.out _ _ (HM_.out.alloc _) (by simp only [up_at,ug_at,up_ne (show (19:Nat)≠20 by decide),ug_ne (show (19:Nat)≠20 by decide),HN_.out,Bool.false_eq_true,if_false,if_true];exact fun _=>⟨_,rfl,HM_.out.size,Blk.new _ _ _⟩)
    refine RnEL.cons (fun L_ g_ A_ W_ hs_=>?_) ?_
    ·have q6_:=hs_.eff 19;have q46_:=hs_.val 18;refine RnE.eff fun K_ hK_=>?_;have y19_:=hs_.yes 19 (by kernel_rfl);have n20_:=hs_.not;have e_:=hs_.e;simp only [y19_,n20_,Bool.false_eq_true,if_false,if_true] at e_;obtain ⟨b_,g_eq,hb_,hB_⟩:=e_ trivial;rw [g_eq] at q6_;have HG_:=Hi34 g_eq;have HB_:=Hi34 hB_;have HL_:=Hi34 hb_;clear g_eq hb_ hB_;have c_0:=HB_.out.cell 0 rfl;have c_1:=HB_.out.cell 1 rfl;have c_2:=HB_.out.cell 2 rfl;have f_0:=HB_.out.free 0;have f_1:=HB_.out.free 1;have f_2:=HB_.out.free 2;have HN_:=Hi34 (y19_);clear y19_ n20_;have HE_:=Hi34 e_;have HM_:=Hi34 hs_.mv;clear e_;go_simp;exact hK_.out undef _ (((HM_.out.setCell (Or.inr HL_.out) _).setCell (Or.inr HL_.out) _).setCell (Or.inr HL_.out) _) (by simp only [up_at,ug_at,up_ne (show (20:Nat)≠19 by decide),ug_ne (show (20:Nat)≠19 by decide),HN_.out,Bool.false_eq_true,if_false,if_true];exact fun _=>⟨b_,HG_.out,HL_.out,((HB_.out.set 0 _).set 1 _).set 2 _⟩)
    exact RnEL.nil
   simp only [fse,Ke.value,puts,Act.put,List.setIfInBounds_toArray,List.set_cons_zero,List.set_cons_succ,Nat.reduceAdd];have HX4:Hid (Ext w w4):=Hi34 hm_.ext;have HB0_4:=Hi34 (hm_.blk HB0_3.out (fun h=>h));have HB1_4:=Hi34 (hm_.blk HB1_3.out (fun h=>h));have HB2_4:=Hi34 (hm_.blk HB2_3.out (fun h=>h));have HMR_4:=Hi34 (HMR_3.out.mv hm_ (fun q hq h=>h));obtain ⟨b6,g6_,l6_,h6_⟩:=he_ rfl;rw [if_pos rfl] at h6_;rw [g6_];have HB6_4:=Hi34 h6_;have HG6:Hid (w.heap.size<=b6):=Hi34 (Nat.le_trans HX3.out.size l6_);clear g6_ l6_ h6_;clear hm_ he_;go_wp2_with fail;go_wp2_with fail;refine region_e [.val (.pointer (some ⟨w1.heap.size,1,none⟩)),.val (.slice la k rc),.val (.agg #[.int .i8 (c k 0),.int .i8 (c k 1),.int .i8 (c k 2)]),.val (.int .i64 (nL:Int)),.eff,.val (.pointer (some ⟨w.heap.size,1,none⟩)),.val (.slice (some ⟨wa,o_,none⟩) m wcap),.val (.int .i64 (k:Int)),.val (.pointer (some ⟨wa,o_+k*4,none⟩)),.val (.pointer (some ⟨wa,o_+k*4+3,none⟩)),.val (.int .i8 (c k 3)),.val (.int .i64 (c k 3)),.val (.int .i64 ((c k 3).tmod 41)),.val (.string (qs (mkRat ((c k 3).tmod 41) 2))),.eff,.eff,.eff,.val (.pointer (some ⟨w1.heap.size,1,none⟩)),.eff] (fun L g W=>(L 4=true->Osl w W 34 1 (g 4) nL ((fun i=>l3G ((c i 0).tmod 10) ((c i 1).tmod 10) ((c i 2).tmod 10)) k))/\(L 14=true->g 14 = .agg #[g 4,.string (qs (mkRat ((c k 3).tmod 41) 2))])/\(L 15=true->∃ b,g 15 = .slice (some ⟨b,0,none⟩) 1 1/\(L 16=false->Blk W b #[g 4,.string (qs (mkRat ((c k 3).tmod 41) 2))] 97))/\(if L 16=true then MR w nL (k+1) (g 16) (.slice lo nL lc) (app (k*2) RG (fun i=>if i=0 then (g 4) else .string (qs (mkRat ((c k 3).tmod 41) 2)))) (l3G (o0.tmod 10) (o1.tmod 10) (o2.tmod 10)) (fun i=>if i=k then g 4 else vf i) (fun i=>l3G ((c i 0).tmod 10) ((c i 1).tmod 10) ((c i 2).tmod 10)) W else MR w nL k (.slice la k rc) (.slice lo nL lc) RG (l3G (o0.tmod 10) (o1.tmod 10) (o2.tmod 10)) vf (fun i=>l3G ((c i 0).tmod 10) ((c i 1).tmod 10) ((c i 2).tmod 10)) W)/\(if L 18=true then Blk W (w1.heap.size) #[.int .i64 (nL:Int),g 16,.slice lo nL lc] 32 else Blk W (w1.heap.size) #[.int .i64 (nL:Int),.slice la k rc,.slice lo nL lc] 32)) (S:=fun q=>vob (.slice la k rc) q∨q=w1.heap.size) (by kernel_rfl) (by kernel_rfl) (by kernel_rfl) (Mv.refl HX4.out (fun q h=>h.elim (fun a=>(HMR_4.out.rows.lt a).1) (fun e=>e▸HGEB2.out))) ?_ ?_ ?_ ?_ (fun gv_ w5 hm_ he_=>?_)
   ·exact fun g=>⟨fun h=>absurd h (by decide),fun h=>absurd h (by decide),fun h=>absurd h (by decide),(by rw [if_neg (by decide)];exact HMR_4.out.drew),(by rw [if_neg (by decide)];exact HB2_4.out.drew)⟩
   ·exact fun L g W W1 h e=>⟨fun a=>(h.1 a).ext e,h.2.1,fun a=>let ⟨b,x,y⟩:=h.2.2.1 a;⟨b,x,fun z=>(y z).ext e⟩,ite_ext h.2.2.2.1 (fun h=>h.ext e) (fun h=>h.ext e),ite_ext h.2.2.2.2 (fun h=>h.ext e) (fun h=>h.ext e)⟩
   ·intro i v L g W hi h;have n4_:i≠4:=fun e=>by subst e;exact absurd (show false=true from hi) (by decide)
    have n14_:i≠14:=fun e=>by subst e;exact absurd (show false=true from hi) (by decide)
    have n15_:i≠15:=fun e=>by subst e;exact absurd (show false=true from hi) (by decide)
    have n16_:i≠16:=fun e=>by subst e;exact absurd (show false=true from hi) (by decide)
    have n18_:i≠18:=fun e=>by subst e;exact absurd (show false=true from hi) (by decide)
    simp only [up_ne n4_,ug_ne n4_,up_ne n14_,ug_ne n14_,up_ne n15_,ug_ne n15_,up_ne n16_,ug_ne n16_,up_ne n18_,ug_ne n18_];exact h
   ·skip
    refine RI 4 (.pointer (some ⟨w1.heap.size,0,none⟩)) ?_;refine RV (fun A_ hs_ K_ hK_=>?_) ?_;· have q47_:=hs_.val 0;have n_:=hs_.no 18 (by decide) (by kernel_rfl);have ep_:=hs_.e.2.2.2.2;rw [if_neg (by rw [n_];decide)] at ep_;have cp_1:=ep_.cell 1 rfl;clear n_ ep_;go_simp;exact fin_ hK_
    refine J4 (fun hs_=>hs_.is 6 (.pointer (some ⟨b6,0,none⟩))) (fun hs_=>(hs_.mv.blk HB6_4.out (fun h=>h.elim (HMR_4.out.rows.not_vob HB6_4.out (by decide)) (fun e=>(vob_ne HB6_4.out HB2_4.out (by decide)) e))).cell (0) rfl) (fun hs_=>(hs_.mv.blk HB6_4.out (fun h=>h.elim (HMR_4.out.rows.not_vob HB6_4.out (by decide)) (fun e=>(vob_ne HB6_4.out HB2_4.out (by decide)) e))).cell (1) rfl) (fun hs_=>(hs_.mv.blk HB6_4.out (fun h=>h.elim (HMR_4.out.rows.not_vob HB6_4.out (by decide)) (fun e=>(vob_ne HB6_4.out HB2_4.out (by decide)) e))).cell (2) rfl)<|RI 3 (.int .i64 (nL:Int)) ?_;refine RnEL.cons (fun L_ g_ A_ W_ hs_=>?_) ?_
    ·have q49_:=hs_.val 2;have q50_:=hs_.val 3;refine RnE.eff fun K_ hK_=>?_;have n14_:=hs_.no 14 (by decide) (by kernel_rfl);have n15_:=hs_.no 15 (by decide) (by kernel_rfl);have n16_:=hs_.no 16 (by decide) (by kernel_rfl);have n18_:=hs_.no 18 (by decide) (by kernel_rfl);have n4_:=hs_.not;have e_:=hs_.e;simp only [n14_,n15_,n16_,n18_,n4_,Bool.false_eq_true,if_false,if_true] at e_;have HN_:=Hi34 (And.intro n14_ (And.intro n15_ (And.intro n16_ (n18_))));clear n14_ n15_ n16_ n18_ n4_;have HE_:=Hi34 e_;have HM_:=Hi34 hs_.mv;clear e_;go_simp;refine (list7_L nL hL (c k 0) (c k 1) (c k 2) _ _ _ _ (HG.out.ext HM_.out.ext) (HCR.out k 0) rfl (HCR.out k 1) rfl (HCR.out k 2) rfl).mono ?_;rintro e W9_ ⟨v_,rfl,e9_,ho_⟩;exact hK_.out v_ W9_ (HM_.out.trans e9_) (by simp only [up_at,ug_at,up_ne (show (4:Nat)≠14 by decide),ug_ne (show (4:Nat)≠14 by decide),up_ne (show (4:Nat)≠15 by decide),ug_ne (show (4:Nat)≠15 by decide),up_ne (show (4:Nat)≠16 by decide),ug_ne (show (4:Nat)≠16 by decide),up_ne (show (4:Nat)≠18 by decide),ug_ne (show (4:Nat)≠18 by decide),HN_.out.1,HN_.out.2.1,HN_.out.2.2.1,HN_.out.2.2.2,Bool.false_eq_true,if_false,if_true];exact ⟨fun _=>mv_osl e9_ ho_ HM_.out.ext.size,(fun h=>by cases h),(fun h=>by cases h),HE_.out.2.2.2.1.ext e9_,HE_.out.2.2.2.2.ext e9_⟩)
    refine RI 1 (.pointer (some ⟨w.heap.size,0,none⟩))<|J2 (fun hs_=>hs_.val 5) (fun hs_=>(hs_.mv.blk HB0_4.out (fun h=>h.elim (HMR_4.out.rows.not_vob HB0_4.out (by decide)) (fun e=>(vob_ne HB0_4.out HB2_4.out (by decide)) e))).cell 1 rfl)<|RI 5 (.int .i64 (k:Int))<|R2 6 7<|R1 8<|J2 (fun hs_=>hs_.val 9) (fun hs_=>keepA hs_.mv.ext (HC3.out)) ?_;refine RV (fun A_ hs_ K_ hK_=>?_) ?_;· have q57_:=hs_.val 10;go_simp;(try go_bits);exact fin_ hK_
    refine RV (fun A_ hs_ K_ hK_=>?_) ?_;· have q58_:=hs_.val 11;go_simp;(try go_bits);exact fin_ hK_
    refine RV (fun A_ hs_ K_ hK_=>?_) ?_;· have q59_:=hs_.val 12;go_simp;refine (num7_c ((c k 3).tmod 41) 2 _ (HG.out.ext hs_.mv.ext) (by have:=tmod41 (c k 3);omega) (by have:=tmod41 (c k 3);omega) (by decide) (by decide)).mono ?_;rintro e W9_ ⟨rfl,e9_⟩;exact hK_.out _ e9_
    refine RnEL.cons (fun L_ g_ A_ W_ hs_=>?_) ?_
    ·have q51_:=hs_.eff 4;have q60_:=hs_.val 13;refine RnE.eff fun K_ hK_=>?_;have y4_:=hs_.yes 4 (by kernel_rfl);have n15_:=hs_.no 15 (by decide) (by kernel_rfl);have n16_:=hs_.no 16 (by decide) (by kernel_rfl);have n18_:=hs_.no 18 (by decide) (by kernel_rfl);have n14_:=hs_.not;have e_:=hs_.e;simp only [y4_,n15_,n16_,n18_,n14_,Bool.false_eq_true,if_false,if_true] at e_;obtain ⟨a_,cc_,es_⟩:=(e_.1 trivial).lsl;rw [es_] at e_ q51_;have HES:=Hi34 es_;clear es_;have HN_:=Hi34 (And.intro y4_ (And.intro n15_ (And.intro n16_ (n18_))));clear y4_ n15_ n16_ n18_ n14_;have HE_:=Hi34 e_;have HM_:=Hi34 hs_.mv;clear e_;go_simp;exact hK_.out _ _ HM_.out (by simp only [up_at,ug_at,up_ne (show (14:Nat)≠4 by decide),ug_ne (show (14:Nat)≠4 by decide),up_ne (show (14:Nat)≠15 by decide),ug_ne (show (14:Nat)≠15 by decide),up_ne (show (14:Nat)≠16 by decide),ug_ne (show (14:Nat)≠16 by decide),up_ne (show (14:Nat)≠18 by decide),ug_ne (show (14:Nat)≠18 by decide),HN_.out.1,HN_.out.2.1,HN_.out.2.2.1,HN_.out.2.2.2,HES.out,Bool.false_eq_true,if_false,if_true];exact ⟨fun _=>HE_.out.1 trivial,fun _=>by first|rfl|trivial,(fun h=>by cases h),HE_.out.2.2.2.1,HE_.out.2.2.2.2⟩)
    refine RnEL.cons (fun L_ g_ A_ W_ hs_=>?_) ?_
    ·have q61_:=hs_.eff 14;refine RnE.eff fun K_ hK_=>?_;have y4_:=hs_.yes 4 (by kernel_rfl);have y14_:=hs_.yes 14 (by kernel_rfl);have n16_:=hs_.no 16 (by decide) (by kernel_rfl);have n18_:=hs_.no 18 (by decide) (by kernel_rfl);have n15_:=hs_.not;have e_:=hs_.e;simp only [y4_,y14_,n16_,n18_,n15_,Bool.false_eq_true,if_false,if_true] at e_;obtain ⟨a_,cc_,es_⟩:=(e_.1 trivial).lsl;have e14_:=e_.2.1 trivial;rw [e14_] at q61_;rw [es_] at e_ q61_;have HES:=Hi34 es_;have H14:=Hi34 e14_;clear es_ e14_;have HN_:=Hi34 (And.intro y4_ (And.intro y14_ (And.intro n16_ (n18_))));clear y4_ y14_ n16_ n18_ n15_;have HE_:=Hi34 e_;have HM_:=Hi34 hs_.mv;clear e_;go_simp;exact hK_.out _ _ (HM_.out.alloc _) (by simp only [up_at,ug_at,up_ne (show (15:Nat)≠4 by decide),ug_ne (show (15:Nat)≠4 by decide),up_ne (show (15:Nat)≠14 by decide),ug_ne (show (15:Nat)≠14 by decide),up_ne (show (15:Nat)≠16 by decide),ug_ne (show (15:Nat)≠16 by decide),up_ne (show (15:Nat)≠18 by decide),ug_ne (show (15:Nat)≠18 by decide),HN_.out.1,HN_.out.2.1,HN_.out.2.2.1,HN_.out.2.2.2,HES.out,Bool.false_eq_true,if_false,if_true];exact ⟨fun _=>(HE_.out.1 trivial).alloc _,fun _=>HE_.out.2.1 trivial,fun _=>⟨_,rfl,fun _=>Blk.new _ _ _⟩,HE_.out.2.2.2.1.alloc _,HE_.out.2.2.2.2.alloc _⟩)
    refine RnEL.cons (fun L_ g_ A_ W_ hs_=>?_) ?_
    ·have q48_:=hs_.val 1;have q62_:=hs_.eff 15;refine RnE.eff fun K_ hK_=>?_;have y4_:=hs_.yes 4 (by kernel_rfl);have y14_:=hs_.yes 14 (by kernel_rfl);have y15_:=hs_.yes 15 (by kernel_rfl);have n18_:=hs_.no 18 (by decide) (by kernel_rfl);have n16_:=hs_.not;have e_:=hs_.e;simp only [y4_,y14_,y15_,n18_,n16_,Bool.false_eq_true,if_false,if_true] at e_;obtain ⟨b_,g_eq,hb_⟩:=e_.2.2.1 trivial;rw [g_eq] at q62_;have HG_:=Hi34 g_eq;have HB_:=Hi34 (hb_ trivial);clear g_eq hb_;have HN_:=Hi34 (And.intro y4_ (And.intro y14_ (And.intro y15_ (n18_))));clear y4_ y14_ y15_ n18_ n16_;have HE_:=Hi34 e_;have HM_:=Hi34 hs_.mv;clear e_;refine op_append (X:=w) (H:=(fun i=>if i=0 then (g_ 4) else .string (qs (mkRat ((c k 3).tmod 41) 2)))) (ad:=⟨b_,0,none⟩) (m:=1) (c:=1) (v:=(.slice la k rc)) rfl (by go_simp) (by go_simp) under_r info_r rfl HM_.out.ext HE_.out.2.2.2.1.rows (fun _=>by decide) (two_src HB_.out) (two_one (HE_.out.1 trivial).one rfl) (by unfold maxLen;omega) (by omega) (fun v_ W9_ hA_=>?_);exact hK_.out v_ W9_ (HM_.out.comp hA_.mv (fun q h=>Or.inl (Or.inl h))) (by simp only [up_at,ug_at,up_ne (show (16:Nat)≠4 by decide),ug_ne (show (16:Nat)≠4 by decide),up_ne (show (16:Nat)≠14 by decide),ug_ne (show (16:Nat)≠14 by decide),up_ne (show (16:Nat)≠15 by decide),ug_ne (show (16:Nat)≠15 by decide),up_ne (show (16:Nat)≠18 by decide),ug_ne (show (16:Nat)≠18 by decide),HN_.out.1,HN_.out.2.1,HN_.out.2.2.1,HN_.out.2.2.2,Bool.false_eq_true,if_false,if_true];exact ⟨fun _=>(HE_.out.1 trivial).mv hA_.mv (fun q a b=>HE_.out.2.2.2.1.rows.apart (HE_.out.1 trivial) (by decide) q b a),fun _=>HE_.out.2.1 trivial,fun _=>⟨b_,HG_.out,(fun h=>by cases h)⟩,HE_.out.2.2.2.1.push hA_ (HE_.out.1 trivial) (if_pos rfl) (fun i hi=>if_neg (by omega)),hA_.mv.blk HE_.out.2.2.2.2 (HE_.out.2.2.2.1.rows.not_vob HE_.out.2.2.2.2 (by decide))⟩)
    refine RI 4 (.pointer (some ⟨w1.heap.size,0,none⟩)) ?_;refine RnEL.cons (fun L_ g_ A_ W_ hs_=>?_) ?_
    ·have q64_:=hs_.val 17;have q63_:=hs_.eff 16;refine RnE.eff fun K_ hK_=>?_;have y4_:=hs_.yes 4 (by kernel_rfl);have y14_:=hs_.yes 14 (by kernel_rfl);have y15_:=hs_.yes 15 (by kernel_rfl);have y16_:=hs_.yes 16 (by kernel_rfl);have n18_:=hs_.not;have e_:=hs_.e;simp only [y4_,y14_,y15_,y16_,n18_,Bool.false_eq_true,if_false,if_true] at e_;obtain ⟨a_,cc_,es_⟩:=e_.2.2.2.1.rows.lsl;rw [es_] at e_ q63_;have HES:=Hi34 es_;clear es_;have c_:=e_.2.2.2.2.cell 1 rfl;have f_:=e_.2.2.2.2.free 1;have HN_:=Hi34 (And.intro y4_ (And.intro y14_ (And.intro y15_ (y16_))));clear y4_ y14_ y15_ y16_ n18_;have HE_:=Hi34 e_;have HM_:=Hi34 hs_.mv;clear e_;go_simp;exact hK_.out undef _ (HM_.out.setCell (Or.inl (Or.inr rfl)) _) (by simp only [up_at,ug_at,up_ne (show (18:Nat)≠4 by decide),ug_ne (show (18:Nat)≠4 by decide),up_ne (show (18:Nat)≠14 by decide),ug_ne (show (18:Nat)≠14 by decide),up_ne (show (18:Nat)≠15 by decide),ug_ne (show (18:Nat)≠15 by decide),up_ne (show (18:Nat)≠16 by decide),ug_ne (show (18:Nat)≠16 by decide),HN_.out.1,HN_.out.2.1,HN_.out.2.2.1,HN_.out.2.2.2,HES.out,Bool.false_eq_true,if_false,if_true];exact ⟨fun _=>(HE_.out.1 trivial).other _ ((HE_.out.1 trivial).not_vob HE_.out.2.2.2.2 (by decide)),fun _=>HE_.out.2.1 trivial,fun _=>let ⟨b,x,_⟩:=HE_.out.2.2.1 trivial;⟨b,x,(fun h=>by cases h)⟩,HE_.out.2.2.2.1.other _ (HE_.out.2.2.2.1.apb HE_.out.2.2.2.2 (by decide) (by decide)),HE_.out.2.2.2.2.set 1 _⟩)
    exact RnEL.nil
   simp only [fse,Ke.value,puts,Act.put,List.setIfInBounds_toArray,List.set_cons_zero,List.set_cons_succ,Nat.reduceAdd];have HX5:Hid (Ext w w5):=Hi34 hm_.ext;have HB0_5:=Hi34 (hm_.blk HB0_4.out (fun h=>h.elim (HMR_4.out.rows.not_vob HB0_4.out (by decide)) (fun e=>(vob_ne HB0_4.out HB2_4.out (by decide)) e)));have HB1_5:=Hi34 (hm_.blk HB1_4.out (fun h=>h.elim (HMR_4.out.rows.not_vob HB1_4.out (by decide)) (fun e=>(Nat.ne_of_lt HB1_1.out.lt) e)));have HB6_5:=Hi34 (hm_.blk HB6_4.out (fun h=>h.elim (HMR_4.out.rows.not_vob HB6_4.out (by decide)) (fun e=>(vob_ne HB6_4.out HB2_4.out (by decide)) e)));have h_:=he_;simp only [if_true] at h_;obtain ⟨vr2,ev_⟩:∃ v,gv_ 16=v:=⟨_,rfl⟩
   obtain ⟨vf2,eg_⟩:∃ v,gv_ 4=v:=⟨_,rfl⟩
   rw [ev_,eg_] at h_;have HMR_5:=Hi34 h_.2.2.2.1;have HB2_5:=Hi34 h_.2.2.2.2;have HRG2:=Hi34 (rg_next (G:=(fun i => .string (qs (mkRat ((c i 3).tmod 41) 2)))) (x:=vf2) (vg:=fun i=>if i=k then vf2 else vf i) HRG.out (if_pos rfl) (fun i hi=>if_neg (by omega)));clear h_ ev_ eg_;clear hm_ he_;go_wp2_with fail;go_roundw
   case rel=>exact ⟨k+1,by go_num,by omega,Hi34 ⟨HX5.out,HB0_5.out,HB1_5.out,⟨_,_,_,HB2_5.out,HMR_5.out,HRG2.out⟩⟩⟩
   case measure=>simp [intOf];omega
  ·have hk2:k=m:=by omega
   have hge:¬ (k:Int)<((m:Nat):Int):=by omega
   obtain rfl:m=k:=hk2.symm;have c0_1:=HB0_3.out.cell 1 rfl;have c2_0:=HB2_3.out.cell 0 rfl;have c2_1:=HB2_3.out.cell 1 rfl;have c2_2:=HB2_3.out.cell 2 rfl;have c1_0:=HB1_3.out.cell 0 rfl;have f1_0:=HB1_3.out.free 0;have c1_1:=HB1_3.out.cell 1 rfl;have f1_1:=HB1_3.out.free 1;have c1_2:=HB1_3.out.cell 2 rfl;have f1_2:=HB1_3.out.free 2;go_wp2_with fail;refine wp_name (fun W=>Ext w W/\Blk W (w.heap.size) (#[.int .u8 vv,.slice wo m wcap,.int .i8 o0,.int .i8 o1,.int .i8 o2]) 26/\Blk W (w.heap.size+1) (#[.int .i64 (nL:Int),.slice la m rc,.slice lo nL lc]) 32/\Blk W (w1.heap.size) (#[.int .i64 (nL:Int),.slice la m rc,.slice lo nL lc]) 32/\MR w nL m (.slice la m rc) (.slice lo nL lc) RG (l3G (o0.tmod 10) (o1.tmod 10) (o2.tmod 10)) vf (fun i=>l3G ((c i 0).tmod 10) ((c i 1).tmod 10) ((c i 2).tmod 10)) W) ⟨(((HX3.out.setCell (HGEB1.out) _).setCell (HGEB1.out) _).setCell (HGEB1.out) _),(((HB0_3.out.other (a:=⟨w.heap.size+1,0,none⟩) _ (by first|omega|(simp only [];omega)|(simp;omega))).other (a:=⟨w.heap.size+1,1,none⟩) _ (by first|omega|(simp only [];omega)|(simp;omega))).other (a:=⟨w.heap.size+1,2,none⟩) _ (by first|omega|(simp only [];omega)|(simp;omega))),(((HB1_3.out.set 0 (.int .i64 (nL:Int))).set 1 (.slice la m rc)).set 2 (.slice lo nL lc)),(((HB2_3.out.other (a:=⟨w.heap.size+1,0,none⟩) _ (Nat.ne_of_gt HB1_1.out.lt)).other (a:=⟨w.heap.size+1,1,none⟩) _ (Nat.ne_of_gt HB1_1.out.lt)).other (a:=⟨w.heap.size+1,2,none⟩) _ (Nat.ne_of_gt HB1_1.out.lt)),(((HMR_3.out.other (a:=⟨w.heap.size+1,0,none⟩) _ ((MR.apb HMR_3.out HB1_3.out (by decide) (by decide)))).other (a:=⟨w.heap.size+1,1,none⟩) _ ((MR.apb HMR_3.out HB1_3.out (by decide) (by decide)))).other (a:=⟨w.heap.size+1,2,none⟩) _ ((MR.apb HMR_3.out HB1_3.out (by decide) (by decide))))⟩ ?_;rintro w4 ⟨e4,bB0_4,bB1_4,bB2_4,bMR_4⟩;have HX4:=Hi34 e4;have HB0_4:=Hi34 bB0_4;have HB1_4:=Hi34 bB1_4;have HB2_4:=Hi34 bB2_4;have HMR_4:=Hi34 bMR_4;clear e4 bB0_4 bB1_4 bB2_4 bMR_4 c0_1 c2_0 c2_1 c2_2 c1_0 f1_0 c1_1 f1_1 c1_2 f1_2;have gB1_0:=HB1_4.out.cell 0 rfl;have gB1_1:=HB1_4.out.cell 1 rfl;have gB1_2:=HB1_4.out.cell 2 rfl;refine bodyPost_ret (v:=.agg #[.int .i64 (nL:Int),.slice la m rc,.slice lo nL lc]) (by simp [results,Tryz.results14,go_sem,gB1_0,gB1_1,gB1_2]) rfl ⟨_,_,_,rfl,HX4.out,MR.pm (P:=planP nL m c o0 o1 o2) HMR_4.out HRG.out⟩
structure Sm (P:LP):Prop where
 n:P.n<=3
 m:P.m<=6
 A:∀ i,i<P.m->∀ k,k<P.n->ZB 54 (2*P.A i k)
 B:∀ i,i<P.m->ZB 54 (2*P.B i)
 C:∀ k,k<P.n->ZB 54 (2*P.C k)
theorem zb2:ZB 54 (2:Rat):=⟨2,rfl,by decide⟩
theorem zb_qb {x:Rat} (h:ZB 54 (2*x)):QB 2 x:=ZB.qb (D:=2) (by decide) zb2 h (by decide)
theorem small_gb {n:Nat} (h:n<=3):(n+1)*54*GB n 54<10 ^ 17:=by
 rcases (by omega:n=0∨n=1∨n=2∨n=3) with h|h|h|h <;> rw [h] <;> decide
section
variable {P:LP}
theorem Sm.szd (h:Sm P):Szd P 17:=Sz.szd (s:=2) (K:=54) ⟨by decide,by decide,zb2,h.A,h.B,h.C⟩ (small_gb h.n)
theorem Sm.qa (h:Sm P):∀ i,i<P.m->∀ j,j<P.n->QB 2 (P.A i j):=fun i hi j hj=>zb_qb (h.A i hi j hj)
theorem Sm.qb (h:Sm P):∀ i,i<P.m->QB 2 (P.B i):=fun i hi=>zb_qb (h.B i hi)
theorem Sm.qc (h:Sm P):∀ j,j<P.n->QB 2 (P.C j):=fun j hj=>zb_qb (h.C j hj)
theorem Sm.qa17 (h:Sm P):∀ i,i<P.m->∀ j,j<P.n->QB 17 (P.A i j):=fun i hi j hj=>(h.qa i hi j hj).mono (by decide)
theorem Sm.pq (h:Sm P):PQ P:=⟨fun i hi j hj=>(h.qa i hi j hj).mono (by decide),fun i hi=>(h.qb i hi).mono (by decide),fun j hj=>(h.qc j hj).mono (by decide)⟩
theorem Sm.obj (h:Sm P) {C:Nat->Rat} (hC:∀ k,k<P.n->ZB 54 (2*C k)):Sm { P with C:=C }:=⟨h.n,h.m,h.A,h.B,hC⟩
theorem Sm.zero (h:Sm P):Sm { P with C:=fun _=>0 }:=h.obj fun k _=>by rw [Rat.mul_zero];exact ZB.zero _
theorem Sm.unit (h:Sm P) (k:Nat) {s:Rat} (hs:s=1∨s=-1):Sm (P.unit k s):=h.obj fun j _=>by
 show ZB 54 (2*(if j=k then s else 0));split
 ·rcases hs with rfl|rfl
  ·exact ⟨2,by grind,by decide⟩
  ·exact ⟨-2,by grind,by decide⟩
 ·rw [Rat.mul_zero];exact ZB.zero _
theorem Sm.rows (h:Sm P) {m:Nat} (hm:m<=P.m):Sm { P with m:=m }:=⟨h.n,Nat.le_trans hm h.m,fun i hi=>h.A i (Nat.lt_of_lt_of_le hi hm),fun i hi=>h.B i (Nat.lt_of_lt_of_le hi hm),h.C⟩
end
theorem zb_l3 {a b c:Int} (j:Nat):ZB 18 (2*l3 (a.tmod 10) (b.tmod 10) (c.tmod 10) j):=by
 have one:∀ i:Int,ZB 18 (2*mkRat (i.tmod 10) 1):=fun i=>by
  have:=tmod10 i;refine ⟨2*i.tmod 10,?_,by omega⟩;rw [Rat.mkRat_eq_div,Rat.intCast_mul];grind
 rw [l3];split
 ·exact one a
 ·split
  ·exact one b
  ·exact one c
theorem zb_b {i:Int}:ZB 40 (2*mkRat (i.tmod 41) 2):=by
 have:=tmod41 i;refine ⟨i.tmod 41,?_,by omega⟩;rw [Rat.mkRat_eq_div];grind
theorem plan_sm {n m:Nat} {c:Nat->Nat->Int} {o0 o1 o2:Int} (hn:n<=3) (hm:m<=6):Sm (planP n m c o0 o1 o2) :=
 ⟨hn,hm,fun i _ k _=>(zb_l3 k).mono (by decide),fun i _=>zb_b.mono (by decide),fun k _=>(zb_l3 k).mono (by decide)⟩
theorem plan_three {n m:Nat} {c:Nat->Nat->Int} {o0 o1 o2:Int} (hn:n<=3) (hm:m<=6):Sm { planP n m c o0 o1 o2 with C:=fun k=>3*(planP n m c o0 o1 o2).C k } :=
 (plan_sm hn hm).obj fun k _=>by
  have:=(ZB.mul (A:=3) (B:=18) (x:=3) ⟨3,rfl,by decide⟩ (zb_l3 (a:=o0) (b:=o1) (c:=o2) k))
  show ZB 54 (2*(3*l3 (o0.tmod 10) (o1.tmod 10) (o2.tmod 10) k));rwa [show (2:Rat)*(3*l3 (o0.tmod 10) (o1.tmod 10) (o2.tmod 10) k)=3*(2*l3 (o0.tmod 10) (o1.tmod 10) (o2.tmod 10) k) by grind]
structure TxL (w:World) (v:Value) (m:Nat) (t:Nat->ByteArray):Prop where
 rs:Rs w v m t
 sz:∀ i,i<m->(t i).size<=1000000
 le:m<=1000
 q:TxQ t m 20
theorem TxL.ext {w w':World} {v:Value} {m:Nat} {t:Nat->ByteArray} (h:TxL w v m t) (e:Ext w w'):TxL w' v m t:=⟨h.rs.ext e,h.sz,h.le,h.q⟩
theorem TxL.nil (w:World):TxL w (.slice none 0 0) 0 (fun _=>⟨#[]⟩):=⟨Rd.nil w _,fun i hi=>absurd hi (Nat.not_lt_zero i),by decide,fun i hi=>absurd hi (Nat.not_lt_zero i)⟩
theorem TxL.qs {X w:World} {v:Value} {n q:Nat} {x:Nat->Rat} (h:Nq X w v n x) (hx:∀ j,j<n->QB q (x j)) (hq:q<=20) (hn:n<=1000):TxL w v n (fun j=>qs (x j)) :=
 ⟨h.rd (cap_le hn),fun j hj=>((hx j hj).mono hq).sz (by decide),hn,fun j hj _=>⟨x j,rfl,(hx j hj).mono hq⟩⟩
section
variable {P:LP} {X w:World} {vr vc v:Value} {va:Nat->Value}
theorem SolV.texts (h:SolV P 17 X w v) (hn:P.n<=1000) (hm:P.m<=1000):∃ kd val o1 m1 c1 o2 m2 c2 o3 m3 c3 t1 t2 t3,v = .agg #[.int .i64 kd,.string val,.slice o1 m1 c1,.slice o2 m2 c2,.slice o3 m3 c3]/\val.size<=1000000 /\
    TxL w (.slice o1 m1 c1) m1 t1/\TxL w (.slice o2 m2 c2) m2 t2/\TxL w (.slice o3 m3 c3) m3 t3/\vfy P kd val t1 m1 t2 m2 t3 m3=0:=by
 rcases h with ⟨val,x,y,vp,vd,rfl,h2,h3,h4,h5,h6,h7⟩|⟨y,vd,rfl,h2,h3,h4⟩|⟨x,d,vp,vd,rfl,h2,h3,h4,h5,h6⟩
 ·obtain ⟨a,c,rfl⟩:=h6.isl;obtain ⟨a',c',rfl⟩:=h7.isl;exact ⟨_,_,_,_,_,_,_,_,_,_,_,_,_,_,rfl,h3.sz (by decide),TxL.qs h6 h4 (by decide) hn,TxL.qs h7 h5 (by decide) hm,TxL.nil w,vfy_best h2 h4 h5 h3 (by decide)⟩
 ·obtain ⟨a,c,rfl⟩:=h4.isl;exact ⟨_,_,_,_,_,_,_,_,_,_,_,_,_,_,rfl,by decide,TxL.nil w,TxL.qs h4 h3 (by decide) hm,TxL.nil w,vfy_inf h2 h3 (by decide)⟩
 ·obtain ⟨a,c,rfl⟩:=h5.isl;obtain ⟨a',c',rfl⟩:=h6.isl;exact ⟨_,_,_,_,_,_,_,_,_,_,_,_,_,_,rfl,by decide,TxL.qs h5 h3 (by decide) hn,TxL.nil w,TxL.qs h6 h4 (by decide) hn,vfy_fall h2 h3 h4 (by decide)⟩
variable (g:Gd w) (hP:PM P w vr vc va) (S:Sm P)
include g hP S
theorem min_sm:Calls Tryz.prog 15 #[.agg #[.int .i64 (P.n:Int),vr,vc]] w (MinzP P 17 w) :=
 pmin_c P vr vc va 17 w g hP S.szd S.pq (by have:=S.n;omega) (by have:=S.m;omega) (by decide) (by decide) S.qa17
theorem range_sm (k:Nat) (hk:k<P.n):Calls Tryz.prog 19 #[.agg #[.int .i64 (P.n:Int),vr,vc],.int .i64 (k:Int)] w (RangP P k 17 w) :=
 prange_c P vr vc va 17 w g hP k hk (S.unit k (Or.inl rfl)).szd (S.unit k (Or.inr rfl)).szd S.pq (by have:=S.n;omega) (by have:=S.m;omega) (by decide) (by decide) S.qa17
theorem verify_sm (kd:Int) (val:ByteArray) (hv:val.size<=1000000) {o1 o2 o3:Option Addr} {m1 c1 m2 c2 m3 c3:Nat} {t1 t2 t3:Nat->ByteArray} (h1:TxL w (.slice o1 m1 c1) m1 t1) (h2:TxL w (.slice o2 m2 c2) m2 t2) (h3:TxL w (.slice o3 m3 c3) m3 t3) :
    Calls Tryz.prog 23 #[.agg #[.int .i64 (P.n:Int),vr,vc],.agg #[.int .i64 kd,.string val,.slice o1 m1 c1,.slice o2 m2 c2,.slice o3 m3 c3]] w (Ret w (.int .i64 (vfy P kd val t1 m1 t2 m2 t3 m3))) :=
 pverify_c P vr vc va 2 w g hP kd val hv o1 m1 c1 o2 m2 c2 o3 m3 c3 20 t1 h1.rs h1.sz (by have:=h1.le;omega) h1.q t2 h2.rs h2.sz (by have:=h2.le;omega) h2.q t3 h3.rs h3.sz (by have:=h3.le;omega) h3.q (by decide) (by have:=S.n;omega) (by have:=S.m;omega) S.qb S.qc S.pq (by have:=S.n;omega) (by have:=S.m;omega) (by decide) (by decide) S.qa
theorem lverify_sm (kd:Int) (val:ByteArray) (hv:val.size<=1000000) {o1 o2 o3:Option Addr} {m1 c1 m2 c2 m3 c3:Nat} {t1 t2 t3:Nat->ByteArray} (h1:TxL w (.slice o1 m1 c1) m1 t1) (h2:TxL w (.slice o2 m2 c2) m2 t2) (h3:TxL w (.slice o3 m3 c3) m3 t3) :
    Calls Tryz.prog 20 #[.agg #[.int .i64 (P.n:Int),vr,vc],.agg #[.int .i64 kd,.string val,.slice o1 m1 c1,.slice o2 m2 c2,.slice o3 m3 c3]] w (Ret w (.int .i64 (vfy P kd val t1 m1 t2 m2 t3 m3))) :=
 lverify_c P vr vc va 2 w g hP kd val hv o1 m1 c1 o2 m2 c2 o3 m3 c3 20 t1 h1.rs h1.sz (by have:=h1.le;omega) h1.q t2 h2.rs h2.sz (by have:=h2.le;omega) h2.q t3 h3.rs h3.sz (by have:=h3.le;omega) h3.q (by decide) (by have:=S.n;omega) (by have:=S.m;omega) (by decide) S.qb S.qc h2.le S.pq (by have:=S.n;omega) (by have:=S.m;omega) (by decide) (by decide) S.qa
end
section
variable {P:LP} {v v':Rat} {x y x' y' d:Nat->Rat}
theorem Best.unique (h:Best P v x y) (h':Best P v' x' y'):v=v':=by
 have a:=h.least _ h'.feas;have b:=h'.least _ h.feas;rw [h'.worth] at a;rw [h.worth] at b;grind
theorem Best.no_ref (h:Best P v x y) (h':Refutes P y'):False:=h'.none _ h.feas
theorem Best.no_fall (h:Best P v x y) (h':Falls P x' d):False:=by
 obtain ⟨z,hz,hv⟩:=h'.deep (v-1);have:=h.least _ hz;grind
theorem SolV.known {q:Nat} {X w:World} {u:Value} (h:SolV P q X w u) (hb:Best P v x y):∃ o1 m1 c1 o2 m2 c2,u = .agg #[.int .i64 1,.string (qs v),.slice o1 m1 c1,.slice o2 m2 c2,.slice none 0 0]:=by
 rcases h with ⟨val,x1,y1,vp,vd,rfl,h2,h3,h4,h5,h6,h7⟩|⟨y1,vd,rfl,h2,h3,h4⟩|⟨x1,d1,vp,vd,rfl,h2,h3,h4,h5,h6⟩
 ·obtain ⟨a,c,rfl⟩:=h6.isl;obtain ⟨a',c',rfl⟩:=h7.isl;rw [h2.unique hb];exact ⟨_,_,_,_,_,_,rfl⟩
 ·exact (hb.no_ref h2).elim
 ·exact (hb.no_fall h2).elim
theorem RangP.known {k q:Nat} {w w':World} {e:Ending} (h:RangP P k q w e w') (h1:Best (P.unit k 1) v x y) (h2:Best (P.unit k (-1)) v' x' y'):e = .returned (.tuple #[.string (qs v),.string (qs (-v')),.int .i64 0])/\Ext w w':=by
 obtain ⟨he,h|⟨lo,hi,rfl,ha,hb⟩⟩:=h
 ·obtain ⟨_,z,hz⟩:=h;exact (h1.no_ref (y':=z) ⟨hz.pos,hz.comb,hz.neg⟩).elim
 ·refine ⟨?_,he⟩;rcases ha with ⟨z,⟨_,_,hz⟩,_,rfl⟩|⟨⟨_,_,hf⟩,_⟩
  ·rcases hb with ⟨z2,⟨_,_,hz2⟩,_,rfl⟩|⟨⟨_,_,hf⟩,_⟩
   ·rw [hz.unique h1,hz2.unique h2]
   ·exact (h2.no_fall hf).elim
  ·exact (h1.no_fall hf).elim
end
def knP (b0 b1:Rat):LP:=⟨1,2,fun i _=>if i=0 then 1 else -1,fun i=>if i=0 then b0 else b1,fun _=>1⟩
theorem kn_two {p:Nat->Prop} (h0:p 0) (h1:p 1):∀ i,i<2->p i:=fun i hi=>by
 rcases (by omega:i=0∨i=1) with rfl|rfl
 ·exact h0
 ·exact h1
theorem kn_one {p:Nat->Prop} (h0:p 0):∀ i,i<1->p i:=fun i hi=>by
 obtain rfl:i=0:=by omega
 exact h0
def kn1 (a:Rat):Nat->Rat:=fun _=>a
def kn2 (a b:Rat):Nat->Rat:=fun i=>if i=0 then a else b
theorem kn_best:Best (knP 3 (-1)) 1 (kn1 1) (kn2 0 1) :=
 ⟨kn_two (by simp [smq,knP,kn1] <;> grind) (by simp [smq,knP,kn1] <;> grind),kn_two (by simp [kn2] <;> grind) (by simp [kn2] <;> grind),kn_one (by simp [LP.comb,smq,knP,kn2] <;> grind),by simp [LP.bnd,smq,knP,kn2] <;> grind,by simp [LP.obj,smq,knP,kn1] <;> grind⟩
theorem kn_low:Best ((knP 3 (-1)).unit 0 1) 1 (kn1 1) (kn2 0 1) :=
 ⟨kn_two (by simp [smq,knP,kn1] <;> grind) (by simp [smq,knP,kn1] <;> grind),kn_two (by simp [kn2] <;> grind) (by simp [kn2] <;> grind),kn_one (by simp [LP.comb,smq,knP,kn2] <;> grind),by simp [LP.bnd,smq,knP,kn2] <;> grind,by simp [LP.obj,smq,knP,kn1] <;> grind⟩
theorem kn_high:Best ((knP 3 (-1)).unit 0 (-1)) (-3) (kn1 3) (kn2 1 0) :=
 ⟨kn_two (by simp [smq,knP,kn1] <;> grind) (by simp [smq,knP,kn1] <;> grind),kn_two (by simp [kn2] <;> grind) (by simp [kn2] <;> grind),kn_one (by simp [LP.comb,smq,knP,kn2] <;> grind),by simp [LP.bnd,smq,knP,kn2] <;> grind,by simp [LP.obj,smq,knP,kn1] <;> grind⟩
theorem kn_ref:Refutes (knP 1 (-2)) (kn2 1 1) :=
 ⟨kn_two (by simp [kn2] <;> grind) (by simp [kn2] <;> grind),kn_one (by simp [LP.comb,smq,knP,kn2] <;> grind),by simp [LP.bnd,smq,knP,kn2] <;> grind⟩
theorem kn_sm {b0 b1:Rat} (h0:ZB 54 (2*b0)) (h1:ZB 54 (2*b1)):Sm (knP b0 b1) :=
 ⟨by show 1<=3;decide,by show 2<=6;decide,kn_two (kn_one ⟨2,by simp [knP] <;> grind,by decide⟩) (kn_one ⟨-2,by simp [knP] <;> grind,by decide⟩),kn_two h0 h1,kn_one ⟨2,by simp [knP] <;> grind,by decide⟩⟩
theorem kn_pm {w:World} {b1 b2 b3 b4:Nat} {r0 r1:Rat} {x0 x1:ByteArray} (e0:qs r0=x0) (e1:qs r1=x1) (h1:Blk w b1 #[.string ⟨#[49]⟩] 34) (h2:Blk w b2 #[.string ⟨#[45,49]⟩] 34)
    (h3:Blk w b3 #[.slice (some ⟨b1,0,none⟩) 1 1,.string x0,.slice (some ⟨b2,0,none⟩) 1 1,.string x1] 97) (h4:Blk w b4 #[.string ⟨#[49]⟩] 34) :
    PM (knP r0 r1) w (.slice (some ⟨b3,0,none⟩) 2 2) (.slice (some ⟨b4,0,none⟩) 1 1) (fun i=>if i=0 then .slice (some ⟨b1,0,none⟩) 1 1 else .slice (some ⟨b2,0,none⟩) 1 1):=by
 subst e0 e1;refine ⟨⟨some ⟨b3,0,none⟩,2,rfl,Nat.le_refl _,by decide,?_⟩,?_,?_⟩
 ·exact kn_two ⟨b3,0,rfl,h3.cell 0 rfl,h3.cell 1 rfl⟩ ⟨b3,0,rfl,h3.cell 2 rfl,h3.cell 3 rfl⟩
 ·refine kn_two ?_ ?_
  ·exact Rd.blk h1 (Nat.le_refl _) (by decide) (kn_one (by show _=some (Value.string (qs 1));rw [qs_one];rfl))
  ·exact Rd.blk h2 (Nat.le_refl _) (by decide) (kn_one (by show _=some (Value.string (qs (-1)));rw [qs_m1];rfl))
 ·exact Rd.blk h4 (Nat.le_refl _) (by decide) (kn_one (by show _=some (Value.string (qs 1));rw [qs_one];rfl))
theorem qs_m2:qs (-2)=⟨#[45,50]⟩:=by
 have:=qs_neg_pos (q:=2) (by decide);rw [← this];have e:=qs_int 2;rw [show ((2:Int):Rat)=2 by rfl] at e;rw [e];unfold zs;rw [zl_pos (by decide)];show (⟨#[45]⟩:ByteArray) ++ ⟨(Lib.decDigits 2).toArray⟩=_;rw [Lib.decDigits,dif_pos (by decide)];rfl
theorem qs_mm3:qs (- -3)=⟨#[51]⟩:=by rw [show (- -3:Rat)=3 by grind];exact qs_three
theorem kn_refutes {w:World} {vr vc:Value} {va:Nat->Value} {b:Nat} (g:Gd w) (hP:PM (knP 1 (-2)) w vr vc va) (hB:Blk w b #[.string ⟨#[49]⟩,.string ⟨#[49]⟩] 34):Calls Tryz.prog 59 #[.agg #[.int .i64 ((1:Nat):Int),vr,vc],.agg #[.slice (some ⟨b,0,none⟩) 2 2]] w (Ret w (.int .i64 0)):=by
 have S:Sm (knP 1 (-2)):=kn_sm ⟨2,by grind,by decide⟩ ⟨-4,by grind,by decide⟩;have hy:∀ i,i<2->QB 1 (kn2 1 1 i):=kn_two QB1 QB1;have ht:Rs w (.slice (some ⟨b,0,none⟩) 2 2) 2 (fun i=>qs (kn2 1 1 i)):=Rd.blk hB (Nat.le_refl _) (by decide) (kn_two (by show _=some (Value.string (qs 1));rw [qs_one];rfl) (by show _=some (Value.string (qs 1));rw [qs_one];rfl));have:=prefutes_c (knP 1 (-2)) vr vc va 2 w g hP _ 2 _ 20 ht (fun i hi=>((hy i hi).mono (by decide)).sz (q:=20) (by decide)) (by decide) (fun i hi _=>⟨_,rfl,(hy i hi).mono (by decide)⟩) (by decide) (by decide) S.qb S.pq (by decide) (by decide) (by decide) (by decide) S.qa;rwa [show rfc (knP 1 (-2)) (fun i=>qs (kn2 1 1 i)) 2=0 by rw [rfc,if_neg (fun h'=>h' (merr_qs (m:=2) (fun i hi=>(hy i hi).mono (by decide)) kn_ref.pos)),yq_qs,if_pos ⟨kn_ref.neg,kn_ref.comb⟩]] at this
theorem kn_z3:ZB 54 (2*(3:Rat)):=⟨6,by grind,by decide⟩
theorem kn_zm1:ZB 54 (2*(-1:Rat)):=⟨-2,by grind,by decide⟩
theorem known7_c (w:World) (g:Gd w):Calls Tryz.prog 18 #[] w (Ret w (.bool true)):=by
 have HG:=Hi34 g;clear g;go_enter Tryz.func18,Tryz.ntmps18;go_wp2_with fail;refine (min_sm (HG.out.ext (((((((Ext.refl w).alloc _).alloc _).alloc _).alloc _).alloc _))) (kn_pm (r0:=3) (r1:=-1) qs_three qs_m1 (((((Blk.nw (#[.string ⟨#[49]⟩]) 34).alloc _).alloc _).alloc _).alloc _) ((((Blk.nw (#[.string ⟨#[45,49]⟩]) 34).alloc _).alloc _).alloc _) (((Blk.nw (#[.slice (some ⟨w.heap.size,0,none⟩) 1 1,.string ⟨#[51]⟩,.slice (some ⟨w.heap.size+1,0,none⟩) 1 1,.string ⟨#[45,49]⟩]) 97).alloc _).alloc _) ((Blk.nw (#[.string ⟨#[49]⟩]) 34).alloc _)) (kn_sm kn_z3 kn_zm1)).mono ?_;rintro e w1 ⟨v_,rfl,e1,sv_⟩;have HX1:Hid (Ext w w1):=Hi34 (((((((Ext.refl w).alloc _).alloc _).alloc _).alloc _).alloc _).trans e1);have HB0_1:Hid (Blk w1 (w.heap.size) (#[.string ⟨#[49]⟩]) 34):=Hi34 (((((((Blk.nw (#[.string ⟨#[49]⟩]) 34).alloc _).alloc _).alloc _).alloc _)).ext e1);have HB1_1:Hid (Blk w1 (w.heap.size+1) (#[.string ⟨#[45,49]⟩]) 34):=Hi34 ((((((Blk.nw (#[.string ⟨#[45,49]⟩]) 34).alloc _).alloc _).alloc _)).ext e1);have HB2_1:Hid (Blk w1 (w.heap.size+1+1) (#[.slice (some ⟨w.heap.size,0,none⟩) 1 1,.string ⟨#[51]⟩,.slice (some ⟨w.heap.size+1,0,none⟩) 1 1,.string ⟨#[45,49]⟩]) 97):=Hi34 (((((Blk.nw (#[.slice (some ⟨w.heap.size,0,none⟩) 1 1,.string ⟨#[51]⟩,.slice (some ⟨w.heap.size+1,0,none⟩) 1 1,.string ⟨#[45,49]⟩]) 97).alloc _).alloc _)).ext e1);have HB3_1:Hid (Blk w1 (w.heap.size+1+1+1) (#[.string ⟨#[49]⟩]) 34):=Hi34 ((((Blk.nw (#[.string ⟨#[49]⟩]) 34).alloc _)).ext e1);have HB4_1:Hid (Blk w1 (w.heap.size+1+1+1+1) (#[.int .i64 1,.slice (some ⟨w.heap.size+1+1,0,none⟩) 2 2,.slice (some ⟨w.heap.size+1+1+1,0,none⟩) 1 1]) 32):=Hi34 (((Blk.nw (#[.int .i64 1,.slice (some ⟨w.heap.size+1+1,0,none⟩) 2 2,.slice (some ⟨w.heap.size+1+1+1,0,none⟩) 1 1]) 32)).ext e1);have HGEB0:Hid (w.heap.size<=w.heap.size):=Hi34 (Nat.le_refl _);have HGEB1:Hid (w.heap.size<=w.heap.size+1):=Hi34 (by omega);have HGEB2:Hid (w.heap.size<=w.heap.size+1+1):=Hi34 (by omega);have HGEB3:Hid (w.heap.size<=w.heap.size+1+1+1):=Hi34 (by omega);have HGEB4:Hid (w.heap.size<=w.heap.size+1+1+1+1):=Hi34 (by omega);clear e1;obtain ⟨p1,p2,p3,p4,p5,p6,rfl⟩:=sv_.known kn_best;clear sv_;rw [qs_one];go_upto_region 3 with fail
 refine wp_name (fun W=>Ext w W/\Blk W (w.heap.size) (#[.string ⟨#[49]⟩]) 34/\Blk W (w.heap.size+1) (#[.string ⟨#[45,49]⟩]) 34/\Blk W (w.heap.size+1+1) (#[.slice (some ⟨w.heap.size,0,none⟩) 1 1,.string ⟨#[51]⟩,.slice (some ⟨w.heap.size+1,0,none⟩) 1 1,.string ⟨#[45,49]⟩]) 97/\Blk W (w.heap.size+1+1+1) (#[.string ⟨#[49]⟩]) 34/\Blk W (w.heap.size+1+1+1+1) (#[.int .i64 1,.slice (some ⟨w.heap.size+1+1,0,none⟩) 2 2,.slice (some ⟨w.heap.size+1+1+1,0,none⟩) 1 1]) 32/\Blk W (w1.heap.size) (#[.int .i64 1,.string ⟨#[49]⟩,.slice p1 p2 p3,.slice p4 p5 p6,.slice none 0 0]) 38) ⟨(HX1.out.alloc _),(HB0_1.out.alloc _),(HB1_1.out.alloc _),(HB2_1.out.alloc _),(HB3_1.out.alloc _),(HB4_1.out.alloc _),(Blk.nw (#[.int .i64 1,.string ⟨#[49]⟩,.slice p1 p2 p3,.slice p4 p5 p6,.slice none 0 0]) 38)⟩ ?_;rintro w2 ⟨e2,bB0_2,bB1_2,bB2_2,bB3_2,bB4_2,bB5_2⟩;have HX2:=Hi34 e2;have HB0_2:=Hi34 bB0_2;have HB1_2:=Hi34 bB1_2;have HB2_2:=Hi34 bB2_2;have HB3_2:=Hi34 bB3_2;have HB4_2:=Hi34 bB4_2;have HB5_2:=Hi34 bB5_2;have HGEB5:Hid (w.heap.size<=w1.heap.size):=Hi34 (HX1.out.size);clear e2 bB0_2 bB1_2 bB2_2 bB3_2 bB4_2 bB5_2;have c4_0:=HB4_2.out.cell 0 rfl;have c4_1:=HB4_2.out.cell 1 rfl;have c4_2:=HB4_2.out.cell 2 rfl;go_wp2_with fail;refine (range_sm (HG.out.ext (HX2.out)) (kn_pm (r0:=3) (r1:=-1) qs_three qs_m1 HB0_2.out HB1_2.out HB2_2.out HB3_2.out) (kn_sm kn_z3 kn_zm1) 0 (by show 0<1;decide)).mono ?_;rintro e w3 h_;obtain ⟨rfl,e3⟩:=h_.known kn_low kn_high;clear h_;rw [qs_one,qs_mm3];have HX3:=Hi34 (HX2.out.trans e3);have HB0_3:=Hi34 (HB0_2.out.ext e3);have HB1_3:=Hi34 (HB1_2.out.ext e3);have HB2_3:=Hi34 (HB2_2.out.ext e3);have HB3_3:=Hi34 (HB3_2.out.ext e3);have HB4_3:=Hi34 (HB4_2.out.ext e3);have HB5_3:=Hi34 (HB5_2.out.ext e3);clear e3 c4_0 c4_1 c4_2;have c4x_:=(((HB4_3.out.alloc (.cells #[.string ⟨#[49]⟩] 34)).alloc (.cells #[.string ⟨#[45,49]⟩] 34)).alloc (.cells #[.slice (some ⟨w3.heap.size,0,none⟩) 1 1,.string ⟨#[49]⟩,.slice (some ⟨w3.heap.size+1,0,none⟩) 1 1,.string ⟨#[45,50]⟩] 97)).cell 1 rfl;have f4x_:=(((HB4_3.out.alloc (.cells #[.string ⟨#[49]⟩] 34)).alloc (.cells #[.string ⟨#[45,49]⟩] 34)).alloc (.cells #[.slice (some ⟨w3.heap.size,0,none⟩) 1 1,.string ⟨#[49]⟩,.slice (some ⟨w3.heap.size+1,0,none⟩) 1 1,.string ⟨#[45,50]⟩] 97)).free 1;have c4_1:=HB4_3.out.cell 1 rfl;have f4_1:=HB4_3.out.free 1;go_upto_region 5 with fail
 refine wp_name (fun W=>Ext w W/\Blk W (w.heap.size+1+1+1) (#[.string ⟨#[49]⟩]) 34/\Blk W (w.heap.size+1+1+1+1) (#[.int .i64 1,.slice (some ⟨w3.heap.size+1+1,0,none⟩) 2 2,.slice (some ⟨w.heap.size+1+1+1,0,none⟩) 1 1]) 32/\Blk W (w1.heap.size) (#[.int .i64 1,.string ⟨#[49]⟩,.slice p1 p2 p3,.slice p4 p5 p6,.slice none 0 0]) 38/\Blk W (w3.heap.size) (#[.string ⟨#[49]⟩]) 34/\Blk W (w3.heap.size+1) (#[.string ⟨#[45,49]⟩]) 34/\Blk W (w3.heap.size+1+1) (#[.slice (some ⟨w3.heap.size,0,none⟩) 1 1,.string ⟨#[49]⟩,.slice (some ⟨w3.heap.size+1,0,none⟩) 1 1,.string ⟨#[45,50]⟩]) 97) ⟨((((HX3.out.alloc _).alloc _).alloc _).setCell (HGEB4.out) _),((((HB3_3.out.alloc _).alloc _).alloc _).other (a:=⟨w.heap.size+1+1+1+1,1,none⟩) _ (by first|omega|(simp only [];omega)|(simp;omega))),((((HB4_3.out.alloc _).alloc _).alloc _).set 1 (.slice (some ⟨w3.heap.size+1+1,0,none⟩) 2 2)),((((HB5_3.out.alloc _).alloc _).alloc _).other (a:=⟨w.heap.size+1+1+1+1,1,none⟩) _ (Nat.ne_of_gt HB4_1.out.lt)),((((Blk.nw (#[.string ⟨#[49]⟩]) 34).alloc _).alloc _).other (a:=⟨w.heap.size+1+1+1+1,1,none⟩) _ (Nat.ne_of_gt HB4_3.out.lt)),(((Blk.nw (#[.string ⟨#[45,49]⟩]) 34).alloc _).other (a:=⟨w.heap.size+1+1+1+1,1,none⟩) _ (by have:=HB4_3.out.lt;first|omega|(simp only [];omega)|(simp;omega))),((Blk.nw (#[.slice (some ⟨w3.heap.size,0,none⟩) 1 1,.string ⟨#[49]⟩,.slice (some ⟨w3.heap.size+1,0,none⟩) 1 1,.string ⟨#[45,50]⟩]) 97).other (a:=⟨w.heap.size+1+1+1+1,1,none⟩) _ (by have:=HB4_3.out.lt;first|omega|(simp only [];omega)|(simp;omega)))⟩ ?_;rintro w4 ⟨e4,bB3_4,bB4_4,bB5_4,bB6_4,bB7_4,bB8_4⟩;have HX4:=Hi34 e4;have HB3_4:=Hi34 bB3_4;have HB4_4:=Hi34 bB4_4;have HB5_4:=Hi34 bB5_4;have HB6_4:=Hi34 bB6_4;have HB7_4:=Hi34 bB7_4;have HB8_4:=Hi34 bB8_4;have HGEB6:Hid (w.heap.size<=w3.heap.size):=Hi34 (HX3.out.size);have HGEB7:Hid (w.heap.size<=w3.heap.size+1):=Hi34 (Nat.le_succ_of_le HX3.out.size);have HGEB8:Hid (w.heap.size<=w3.heap.size+1+1):=Hi34 (Nat.le_succ_of_le (Nat.le_succ_of_le HX3.out.size));clear e4 bB3_4 bB4_4 bB5_4 bB6_4 bB7_4 bB8_4 c4_1 f4_1;have c4_0:=HB4_4.out.cell 0 rfl;have c4_1:=HB4_4.out.cell 1 rfl;have c4_2:=HB4_4.out.cell 2 rfl;go_wp2_with fail;refine (kn_refutes (HG.out.ext ((HX4.out.alloc _))) (kn_pm (r0:=1) (r1:=-2) qs_one qs_m2 (HB6_4.out.alloc _) (HB7_4.out.alloc _) (HB8_4.out.alloc _) (HB3_4.out.alloc _)) (Blk.nw (#[.string ⟨#[49]⟩,.string ⟨#[49]⟩]) 34)).mono ?_;rintro e w5 ⟨rfl,e5⟩;have HX5:Hid (Ext w w5):=Hi34 ((HX4.out.alloc _).trans e5);have HB3_5:Hid (Blk w5 (w.heap.size+1+1+1) (#[.string ⟨#[49]⟩]) 34):=Hi34 (((HB3_4.out.alloc _)).ext e5);have HB5_5:Hid (Blk w5 (w1.heap.size) (#[.int .i64 1,.string ⟨#[49]⟩,.slice p1 p2 p3,.slice p4 p5 p6,.slice none 0 0]) 38):=Hi34 (((HB5_4.out.alloc _)).ext e5);have HB6_5:Hid (Blk w5 (w3.heap.size) (#[.string ⟨#[49]⟩]) 34):=Hi34 (((HB6_4.out.alloc _)).ext e5);have HB7_5:Hid (Blk w5 (w3.heap.size+1) (#[.string ⟨#[45,49]⟩]) 34):=Hi34 (((HB7_4.out.alloc _)).ext e5);have HB8_5:Hid (Blk w5 (w3.heap.size+1+1) (#[.slice (some ⟨w3.heap.size,0,none⟩) 1 1,.string ⟨#[49]⟩,.slice (some ⟨w3.heap.size+1,0,none⟩) 1 1,.string ⟨#[45,50]⟩]) 97):=Hi34 (((HB8_4.out.alloc _)).ext e5);have HB9_5:Hid (Blk w5 (w4.heap.size) (#[.string ⟨#[49]⟩,.string ⟨#[49]⟩]) 34):=Hi34 (((Blk.nw (#[.string ⟨#[49]⟩,.string ⟨#[49]⟩]) 34)).ext e5);have HGEB9:Hid (w.heap.size<=w4.heap.size):=Hi34 (HX4.out.size);clear e5 c4_0 c4_1 c4_2;have c5_0:=HB5_5.out.cell 0 rfl;have c5_1:=HB5_5.out.cell 1 rfl;go_wp2;go_ret;exact ⟨rfl,HX5.out⟩
def PlW (w:World) (wo:Option Addr) (m:Nat) (c:Nat->Nat->Int):Prop:=∀ i,i<m->∃ wa o,wo=some ⟨wa,o,none⟩/\∀ j,j<4->w.cell? ⟨wa,o+i*4+j,none⟩=some (.int .i8 (c i j))
theorem PlW.ext {w w':World} {wo:Option Addr} {m:Nat} {c:Nat->Nat->Int} (h:PlW w wo m c) (e:Ext w w'):PlW w' wo m c:=fun i hi=>let ⟨wa,o,a,b⟩:=h i hi;⟨wa,o,a,fun j hj=>keepA e (b j hj)⟩
theorem make7_c (vv:Int) (m wcap:Nat) (wo:Option Addr) (c:Nat->Nat->Int) (o0 o1 o2:Int) (w:World) (g:Gd w) (hvr:0<=vv/\vv<=255) (hw:PlW w wo m c) (hc:∀ i j,-128<=c i j/\c i j<=127) (h0:-128<=o0/\o0<=127) (h1:-128<=o1/\o1<=127) (h2:-128<=o2/\o2<=127) (hm:m<=6) :
    Calls Tryz.prog 14 #[.agg #[.int .u8 vv,.slice wo m wcap,.int .i8 o0,.int .i8 o1,.int .i8 o2]] w (MkP (planP (vv.tmod 4).toNat m c o0 o1 o2) w):=by
 have hb:0<=vv.tmod 4/\vv.tmod 4<=3:=by rw [Int.tmod_eq_emod_of_nonneg hvr.1];omega
 exact make_L vv m wcap wo c o0 o1 o2 w g (vv.tmod 4).toNat (by omega) (by omega) hvr hw hc h0 h1 h2 hm
theorem plan_sm2 {vv:Int} {m:Nat} {c:Nat->Nat->Int} {o0 o1 o2:Int} (hvr:0<=vv/\vv<=255) (hm:m<=6):Sm (planP (vv.tmod 4).toNat m c o0 o1 o2) :=
 plan_sm (by rw [Int.tmod_eq_emod_of_nonneg hvr.1];omega) hm
theorem fits7_c (vv:Int) (m wcap:Nat) (wo:Option Addr) (o0 o1 o2:Int) (w:World):Calls Tryz.prog 13 #[.agg #[.int .u8 vv,.slice wo m wcap,.int .i8 o0,.int .i8 o1,.int .i8 o2]] w (Ret w (.bool (decide (m<=6)))):=by
 go_enter Tryz.func13,Tryz.ntmps13;by_cases h1:m<=6
 ·have h2:(m:Int)<=6:=by omega
  go_wp2;go_ret;exact ⟨by first|rfl|(rw [decide_eq_true h1];rfl)|simp [h1],((Ext.refl w).alloc _)⟩
 ·have h2:¬ (m:Int)<=6:=by omega
  go_wp2;go_ret;exact ⟨by first|rfl|(rw [decide_eq_false h1];rfl)|simp [h1],((Ext.refl w).alloc _)⟩
theorem right_q {s:ByteArray} (h:rq s=true):∃ q:Rat,s=qs q:=by
 obtain ⟨q,hq,hn,hd⟩:=rq_true.1 h;refine ⟨q,?_⟩;cases s with
 | mk d =>
  have:d.toList=ql q:=hq;unfold qs
  congr 1
  rw [← this]
theorem qb_of_size {q:Rat} {k:Nat} (h:(qs q).size<=k):QB k q:=by
 rw [qs_size] at h;by_cases hd:q.den=1
 ·rw [ql_one hd] at h;refine ⟨lt_of_zl_len h,?_⟩;have:=List.length_pos_iff.2 (zl_ne q.num);rw [hd];exact Nat.one_lt_pow (by omega) (by decide)
 ·rw [ql_frac hd,List.length_append,List.length_cons] at h;exact ⟨lt_of_zl_len (by omega),lt_of_dec_len (by omega)⟩
theorem TxQ.short {t:Nat->ByteArray} {m r:Nat} (h:∀ i,i<m->(t i).size<=r):TxQ t m r:=fun i hi hr=>by
 obtain ⟨q,hq⟩:=right_q hr;have:=h i hi;rw [hq] at this;exact ⟨q,hq,qb_of_size this⟩
theorem TxL.short {w:World} {v:Value} {m:Nat} {t:Nat->ByteArray} (h:Rs w v m t) (hs:∀ i,i<m->(t i).size<=20) (hm:m<=1000):TxL w v m t:=⟨h,fun i hi=>Nat.le_trans (hs i hi) (by decide),hm,TxQ.short hs⟩
section
variable {P:LP} {v u:Rat} {x y d z:Nat->Rat}
abbrev LP.three (P:LP):LP:={ P with C:=fun k=>3*P.C k }
abbrev LP.less (P:LP) (m:Nat):LP:={ P with m:=m }
theorem obj_three (x:Nat->Rat):P.three.obj x=3*P.obj x:=by
 show smq P.n (fun k=>3*P.C k*x k)=_;rw [LP.obj,← smq_mul];exact smq_congr fun k _=>by grind
theorem Best.three (h:Best P v x y):Best P.three (3*v) x (fun i=>3*y i):=by
 refine ⟨h.feas,fun i hi=>by have:=h.pos i hi;grind,fun k hk=>?_,?_,by rw [obj_three,h.worth]⟩
 ·have e:P.three.comb (fun i=>3*y i) k=3*P.comb y k:=by
   show smq P.m (fun i=>3*y i*P.A i k)=_;rw [LP.comb,← smq_mul];exact smq_congr fun i _=>by grind
  rw [e,h.comb k hk];show 3 * -P.C k=-(3*P.C k);grind
 ·have e:P.three.bnd (fun i=>3*y i)=3*P.bnd y:=by
   show smq P.m (fun i=>3*y i*P.B i)=_;rw [LP.bnd,← smq_mul];exact smq_congr fun i _=>by grind
  rw [e,h.bnd];grind
theorem Refutes.three (h:Refutes P y):Refutes P.three y:=⟨h.pos,h.comb,h.neg⟩
theorem Falls.three (h:Falls P x d):Falls P.three x d:=⟨h.feas,h.row,by rw [obj_three];have:=h.worth;grind⟩
theorem Falls.less {m:Nat} (h:Falls P x d) (hm:m<=P.m):Falls (P.less m) x d:=⟨fun i hi=>h.feas i (Nat.lt_of_lt_of_le hi hm),fun i hi=>h.row i (Nat.lt_of_lt_of_le hi hm),h.worth⟩
abbrev LP.some (P:LP) (m:Nat) (f:Nat->Nat):LP:={ P with m:=m,A:=fun i=>P.A (f i),B:=fun i=>P.B (f i) }
theorem Sm.some (h:Sm P) {m:Nat} {f:Nat->Nat} (hm:m<=6) (hf:∀ j,j<m->f j<P.m):Sm (P.some m f):=⟨h.n,hm,fun i hi=>h.A _ (hf i hi),fun i hi=>h.B _ (hf i hi),h.C⟩
end
structure PlOk (w:World) (vv:Int) (m:Nat) (wo:Option Addr) (c:Nat->Nat->Int) (o0 o1 o2:Int):Prop where
 v:0<=vv/\vv<=255
 rows:PlW w wo m c
 c:∀ i j,-128<=c i j/\c i j<=127
 o0:-128<=o0/\o0<=127
 o1:-128<=o1/\o1<=127
 o2:-128<=o2/\o2<=127
theorem PlOk.ext {w w':World} {vv:Int} {m:Nat} {wo:Option Addr} {c:Nat->Nat->Int} {o0 o1 o2:Int} (h:PlOk w vv m wo c o0 o1 o2) (e:Ext w w'):PlOk w' vv m wo c o0 o1 o2:=⟨h.v,h.rows.ext e,h.c,h.o0,h.o1,h.o2⟩
def MkQ (m:Nat) (w:World) (e:Ending) (w':World):Prop:=∃ (P:LP) (ro:Option Addr) (rcap:Nat) (co:Option Addr) (ccap:Nat) (va:Nat->Value),e = .returned (.agg #[.int .i64 (P.n:Int),.slice ro P.m rcap,.slice co P.n ccap])/\Ext w w'/\PM P w' (.slice ro P.m rcap) (.slice co P.n ccap) va/\Sm P/\P.m=m/\Sm P.three
theorem make7 {w:World} {vv:Int} {m wcap:Nat} {wo:Option Addr} {c:Nat->Nat->Int} {o0 o1 o2:Int} (h:PlOk w vv m wo c o0 o1 o2) (g:Gd w) (hm:m<=6):Calls Tryz.prog 14 #[.agg #[.int .u8 vv,.slice wo m wcap,.int .i8 o0,.int .i8 o1,.int .i8 o2]] w (MkQ m w):=by
 refine (make7_c vv m wcap wo c o0 o1 o2 w g h.v h.rows h.c h.o0 h.o1 h.o2 hm).mono ?_;rintro e w' ⟨vr,vo,va,rfl,ew,pm⟩;have hs:Sm (planP (vv.tmod 4).toNat m c o0 o1 o2):=plan_sm2 h.v hm;have h3:Sm (planP (vv.tmod 4).toNat m c o0 o1 o2).three:=plan_three (by rw [Int.tmod_eq_emod_of_nonneg h.v.1];omega) hm;have hm':(planP (vv.tmod 4).toNat m c o0 o1 o2).m=m:=rfl;generalize planP (vv.tmod 4).toNat m c o0 o1 o2=P at pm hs hm' h3;have h1:=pm.obj;have h2:=pm.rows;obtain ⟨co,ccap,ec_,_⟩:=h1;obtain ⟨ro,rcap,er_,_,_,_⟩:=h2;subst er_ ec_;exact ⟨P,ro,rcap,co,ccap,va,rfl,ew,pm,hs,hm',h3⟩
theorem Mv.down {w X W W':World} {S:Nat->Prop} (m:Mv X W S W') (e:Ext w X):Mv w W S W':=⟨e.trans m.ext,Nat.le_trans e.size m.base,fun k h=>Nat.le_trans e.size (m.low k h),m.size,m.fr⟩
end Go.Proofs.YtmahadmefplbnaaGreatDoor
