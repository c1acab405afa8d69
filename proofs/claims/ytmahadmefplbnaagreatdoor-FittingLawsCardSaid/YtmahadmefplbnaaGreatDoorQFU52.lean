/- Part 52. -/
import Derived.Test.YtmahadmefplbnaaGreatDoorQFUB
import Derived.Test.YtmahadmefplbnaaGreatDoorQFU39
import Derived.Test.YtmahadmefplbnaaGreatDoorQFU49
set_option maxRecDepth 100000
set_option maxHeartbeats 2000000
set_option linter.unusedSimpArgs false
set_option linter.unusedVariables false
namespace Go.Proofs.YtmahadmefplbnaaGreatDoor
open Go Go.RowKit
theorem wB (ao_:Option Addr) (n cap:Nat) (t:Nat->T3) (c:Nat->Int) (hc:c=(fun k=>df (t k))) (w:World) (g:Gd w) (hl:mH w ao_ n t) (hs:∀ k,k<n->TS (t k)) (hn:n<=1000000):Calls Tryz.prog 29 #[.slice ao_ n cap,.bool false] w (aC w (.int .i64 (fm c n))):=by
 have HG:=ai g;have HC:=ai hc;have HL:=ai hl;have HS:=ai hs;clear g hc hl hs;go_enter Tryz.func29,Tryz.ntmps29;go_upto_region 1 with fail
 by_cases h0:n=0
 ·have hz2:((n:Nat):Int)=0:=ae;have hpf:fm c n=13:=by rw [fm,if_pos h0]
  have HPF:=ai hpf;clear hpf h0;go_wp2;go_ret;exact ⟨by rw [HPF.o];rfl,(Ext.refl w)⟩
 ·have hz2:¬ ((n:Nat):Int)=0:=ae;have HN0:=ai h0;go_upto_region 3 with fail
  by_cases h6:60<n
  ·have hz3:(60:Int)<((n:Nat):Int):=ae;have HPF:Hid (fm c n=4):=ai (by rw [fm,if_neg HN0.o,if_pos h6]);clear h6;go_wp2;go_ret;exact ⟨by rw [HPF.o];rfl,(Ext.refl w)⟩
  ·have hz3:¬ (60:Int)<((n:Nat):Int):=ae;have HPF:Hid (fm c n=fz c n):=ai (ko HN0.o h6);clear h6 hz2 h0;go_wp2_with fail;go_loopw [5] (fun x0_ wx=>∃ k:Nat,x0_ = .int .i64 k/\k<=n/\Hid (∀ i,i<k->c i=0)/\Hid (Ext w wx)) (fun x0_ _=>n-(intOf x0_).toNat)
   case atStart=>exact ⟨0,rfl,Nat.zero_le _,ai (fun i hi=>absurd hi (Nat.not_lt_zero i)),ai (Ext.refl w)⟩
   case round =>
    rename World=>w1
    obtain ⟨k,rfl,hkk,HGk,HH⟩:=hrel;have HX1:=ai HH.o;clear HH;by_cases hlt:k<n
    ·have hlt2:(k:Int)<((n:Nat):Int):=ae;obtain ⟨la,o_,rfl,zx_,zy_,zz_⟩:=HL.o k hlt;have HCx:=ai zx_;have HCy:=ai zy_;have HCz:=ai zz_;clear zx_ zy_ zz_;rcases A8 (t k) with ⟨h1_,h2_⟩|⟨h1_,h2_⟩|⟨h1_,h2_⟩
     ·have HCE:=ai h1_;have HIS:=ai h1_;clear h1_ h2_;have cl_o____k___3:=aw HX1.o (HCx.o);have cl_o____k___3___1:=aw HX1.o (HCy.o);have cl_o____k___3___2:=aw HX1.o (HCz.o);go_wp2_with fail;refine ((HCE.o▸gw (t k) _ (HG.o.ext (HX1.o)) (HS.o k hlt))).mono ?_;rintro e w2 ⟨rfl,e2⟩;have HX2:=ai (HX1.o.trans e2);clear e2 cl_o____k___3 cl_o____k___3___1 cl_o____k___3___2;go_wp2_with fail;go_roundw
      case rel=>exact ⟨k+1,by go_num,ae,ai (mw HGk.o (by rw [HC.o];exact HIS.o)),ai HX2.o⟩
      case measure=>simp [intOf];omega
     ·have HCE:=ai h1_;have HIS:=ai h1_;clear h1_ h2_;have cl_o____k___3:=aw HX1.o (HCx.o);have cl_o____k___3___1:=aw HX1.o (HCy.o);have cl_o____k___3___2:=aw HX1.o (HCz.o);go_wp2_with fail;refine ((HCE.o▸gw (t k) _ (HG.o.ext (HX1.o)) (HS.o k hlt))).mono ?_;rintro e w2 ⟨rfl,e2⟩;have HX2:=ai (HX1.o.trans e2);clear e2 cl_o____k___3 cl_o____k___3___1 cl_o____k___3___2;go_wp2;go_ret;exact ⟨congrArg (fun i=>Ending.returned (.int .i64 i)) (show _=fm c n from Eq.symm (by rw [HPF.o,n9 (c:=c) hlt HGk.o (by rw [HC.o];show df (t k)≠0;rw [HIS.o];decide),HC.o];show df (t k)=2;exact HIS.o)),HX2.o⟩
     ·have HCE:=ai h1_;have HIS:=ai h1_;clear h1_ h2_;have cl_o____k___3:=aw HX1.o (HCx.o);have cl_o____k___3___1:=aw HX1.o (HCy.o);have cl_o____k___3___2:=aw HX1.o (HCz.o);go_wp2_with fail;refine ((HCE.o▸gw (t k) _ (HG.o.ext (HX1.o)) (HS.o k hlt))).mono ?_;rintro e w2 ⟨rfl,e2⟩;have HX2:=ai (HX1.o.trans e2);clear e2 cl_o____k___3 cl_o____k___3___1 cl_o____k___3___2;go_wp2;go_ret;exact ⟨congrArg (fun i=>Ending.returned (.int .i64 i)) (show _=fm c n from Eq.symm (by rw [HPF.o,n9 (c:=c) hlt HGk.o (by rw [HC.o];show df (t k)≠0;rw [HIS.o];decide),HC.o];show df (t k)=17;exact HIS.o)),HX2.o⟩
    ·have hk2:k=n:=ae;have hge:¬ (k:Int)<((n:Nat):Int):=ae;go_wp2;go_ret;exact ⟨by rw [HPF.o,gV (by rw [← hk2];exact HGk.o)];rfl,HX1.o⟩
theorem Fl {a n:V3} (ha:eu a) (hn:eu n):0<=ck a n/\ck a n<=1:=by
 have hp:=Rat.mul_pos (mF ha) (mF hn);have h1:=lD (aR a n);have h2:aR a n*aR a n<=aR a a*aR n n:=by
  have a1:=lD (a.y*n.z-a.z*n.y);have a2:=lD (a.z*n.x-a.x*n.z);have a3:=lD (a.x*n.y-a.y*n.x);unfold aR;grind
 unfold ck;have hi:=Rat.inv_pos.2 hp;generalize aR a a*aR n n=D at *;generalize aR a n*aR a n=N at *;rw [Rat.div_def];refine ⟨Rat.mul_nonneg h1 (by grind),?_⟩;have:=Rat.mul_le_mul_of_nonneg_right (c:=D⁻¹) h2 (by grind);rwa [Rat.mul_inv_cancel D (by grind)] at this
def ng (v:V3):V3:=⟨-v.x,-v.y,-v.z⟩
theorem wk {v:V3} (h:bu v):bu (ng v):=by
 obtain ⟨⟨a,ha,a1,a2⟩,⟨b,hb,b1,b2⟩,⟨c,hc,c1,c2⟩⟩:=h;exact ⟨⟨-a,by simp only [ng];rw [ha,Rat.intCast_neg],ae,ae⟩,⟨-b,by simp only [ng];rw [hb,Rat.intCast_neg],ae,ae⟩,⟨-c,by simp only [ng];rw [hc,Rat.intCast_neg],ae,ae⟩⟩
theorem Gh {v:V3} (h:eu v):eu (ng v):=fun e=>h ⟨by have:=e.1;simp only [ng] at this;grind,by have:=e.2.1;simp only [ng] at this;grind,by have:=e.2.2;simp only [ng] at this;grind⟩
theorem GC (a b:V3):bZ (ng a) (ng b)=bZ a b:=by simp only [bZ,ng,Rat.neg_mul,Rat.mul_neg,Rat.neg_neg]
theorem C4 (a b:V3):ck a (ng b)=ck a b:=by
 have h1:aR a (ng b)*aR a (ng b)=aR a b*aR a b:=by simp only [aR,ng];grind
 have h2:aR (ng b) (ng b)=aR b b:=by simp only [aR,ng];grind
 unfold ck;rw [h1,h2]
theorem Ba (n:Nat) (p:Nat->V3) (s:Option (V3 × Rat)) (a b:V3):ib n (fun i=>ng (p i)) s (ng a) (ng b)=ib n p s a b:=by
 unfold ib;simp only [GC,C4]
theorem Bb (n:Nat) (p:Nat->V3) (i:Nat) (s:Option (V3 × Rat)):∀ j,bin n (fun i=>ng (p i)) i s j=bin n p i s j
 | 0=>rfl
 | j+1=>by rw [bin,bin,Bb n p i s j];exact Ba n p _ _ _
theorem xm (n:Nat) (p:Nat->V3):∀ k,aL n (fun i=>ng (p i)) k=aL n p k
 | 0=>rfl
 | k+1=>by rw [aL,aL,xm n p k];exact Bb n p _ _ _
theorem wM {c:Nat->Int}:∀ {n:Nat},fz c n=0->∀ i,i<n->c i=0
 | 0,_,i,hi=>absurd hi (Nat.not_lt_zero i)
 | n+1,h,i,hi=>by
  rw [fz] at h;by_cases e:fz c n=0
  ·rw [if_neg (fun e'=>e' e)] at h;by_cases hi':i<n
   ·exact wM e i hi'
   ·obtain rfl:i=n:=ae;exact h
  ·rw [if_pos e] at h;exact absurd h e
theorem Dk {v:V3} (h:VB 200 v) (e:df (vt v)=0):eu v:=fun z=>by
 rw [df,if_pos (lV h (Nat.le_refl _)),if_pos] at e
 ·exact absurd e af
 ·exact ⟨by show qs v.x=_;rw [z.1,bX],by show qs v.y=_;rw [z.2.1,bX],by show qs v.z=_;rw [z.2.2,bX]⟩
theorem FO {n:Nat} {p:Nat->V3} (hq:∀ i,i<n->bu (p i)) (h0:0<n) (h5:n<=60) (h:fm (fun k=>df (vt (p k))) n=0):∀ i,i<n->eu (p i):=fun i hi =>
 Dk ((hq i hi).vb.mono af) (wM (by rwa [fm,if_neg ae,if_neg ae] at h) i hi)
theorem wZ {p a:V3} (h:aR p a=0):aR (eg p) a=0:=by
 unfold eg;split
 ·have:aR ⟨-p.x,-p.y,-p.z⟩ a=- aR p a:=by simp only [aR];grind
  rw [this,h];rfl
 ·exact h
theorem pN {p a:V3} (hw:aB p=p) (h:aR p a=0):aR (az p) a=0:=by
 have:∃ t:Rat,az p=⟨p.x*t,p.y*t,p.z*t⟩:=⟨_,by rw [az,hw]⟩
 obtain ⟨t,e⟩:=this;rw [e];have:aR ⟨p.x*t,p.y*t,p.z*t⟩ a=t*aR p a:=by simp only [aR];grind
 rw [this,h,Rat.mul_zero]
theorem pG {a n:V3} (h:aR a n=0):ck a n=0:=by unfold ck;rw [h,Rat.mul_zero,Rat.div_def,Rat.zero_mul]
theorem Df {p:Nat->V3} (hq:∀ i,i<2->bu (p i)) (h:eu (bZ (p 0) (p 1))):yK (Br (aL 2 p 2))=true:=by
 have hc:=(mm (xg (hq 0 af).iv (hq 1 af).iv) h)
 have e:aL 2 p 2=some (eg (az (bZ (p 0) (p 1))),aF 2 (fun i=>ck (eg (az (bZ (p 0) (p 1)))) (p i))):=by
  show bin 2 p 1 (bin 2 p 0 none 1) 0=_;show ib 2 p none (p 0) (p 1)=_;exact xk h
 have d0:aR (bZ (p 0) (p 1)) (p 0)=0:=by simp only [aR,bZ];grind
 have d1:aR (bZ (p 0) (p 1)) (p 1)=0:=by simp only [aR,bZ];grind
 have s:aF 2 (fun i=>ck (eg (az (bZ (p 0) (p 1)))) (p i))=0:=by
  show 0+ck _ (p 0)+ck _ (p 1)=0;rw [pG (wZ (pN hc.1 d0)),pG (wZ (pN hc.1 d1)),Rat.add_zero,Rat.add_zero]
 rw [e,Br,if_pos s];rfl
theorem A2 {p:Nat->V3} (h:¬ eu (bZ (p 0) (p 1))):yK (Br (aL 2 p 2))=false:=by
 have e:aL 2 p 2=none:=by
  show bin 2 p 1 (bin 2 p 0 none 1) 0=_;show ib 2 p none (p 0) (p 1)=_;exact rD h
 rw [e];rfl
theorem Ed {q:Rat} (h:0<=q):¬ q.num.sign<0:=fun e=>by
 have h1:=Rat.num_nonneg.2 h;obtain ⟨n,hn⟩:=Int.eq_ofNat_of_zero_le h1;rw [hn] at e;cases n with
 | zero=>exact absurd e af
 | succ n=>exact absurd (show (1:Int)<0 from e) af
theorem Cl {X w:World} {a:Option Addr} {m n c:Nat} {p:Nat->V3} (h:bV X w 67 3 (.slice a m c) n (vG p)):n=m/\n<=c/\lT w a n p:=by
 obtain ⟨a',c',e,h1,h2⟩:=zY h;obtain ⟨rfl,rfl,rfl⟩:=Value.slice.inj e;exact ⟨rfl,h1,h2⟩
theorem Da (q:Rat) (w:World) (g:Gd w) (h:QB 8 q):Calls Tryz.prog 27 #[.string (qs q),.string ⟨#[49]⟩] w (aC w (.int .i64 (dr q 1))):=by
 have:=dJ q 1 w g h (QB.int (n:=1) (k:=1) ⟨af⟩ af) af af;rwa [jE] at this
theorem AI (v:V3) (w:World) (g:Gd w) (h:bu v):Calls Tryz.prog 32 #[.agg #[.string (qs v.x),.string (qs v.y),.string (qs v.z)],.string ⟨#[45,49]⟩] w (aC w (.tuple #[.agg #[.string (qs (ng v).x),.string (qs (ng v).y),.string (qs (ng v).z)],.int .i64 0])):=by
 have e:∀ x:Rat,x * -1=-x:=fun x=>by grind
 have:=o7 v (-1) w g (h.vb.mono af) ((QB.int (n:=-1) (k:=1) ⟨af⟩ af).mono af) (by rw [e,e,e];exact (wk h).vb.mono af);rw [e,e,e,lG] at this;exact this
section
variable {vo:Option Addr} {n cap:Nat} {p:Nat->V3} {w:World} (g:Gd w) (hl:lT w vo n p) (hq:∀ i,i<n->bu (p i)) (hz:∀ i,i<n->eu (p i)) (hn0:0<n) (hn:n<=20) (hnc:n<=cap)
include g hl hq hz hn0 hn hnc
theorem Bd {s:Option (V3 × Rat)} (hs:aL n p n=s):Calls Tryz.prog 33 #[.slice vo n cap] w (aC w (.tuple #[.agg #[.string (stx s).x,.string (stx s).y,.string (stx s).z],.string (Dw s),.int .i64 (H7 s)])):=hs▸Db vo n cap p w g hl hq hz hn0 hn hnc
theorem DQ {s:Option (V3 × Rat)} {f:Bool} (hs:Br (aL n p n)=s) (hf:yK s=f):Calls Tryz.prog 34 #[.slice vo n cap] w (aC w (.tuple #[.agg #[.string (stx s).x,.string (stx s).y,.string (stx s).z],.bool f,.int .i64 0])):=hf▸hs▸AQ vo n cap p w g hl hq hz hn0 hn hnc
end
theorem AJ (a b:V3) (w:World) (g:Gd w) (ha:bu a) (hb:bu b) {f:Bool} (hf:z3 (bZ a b).x (bZ a b).y (bZ a b).z=f):Calls Tryz.prog 35 #[.agg #[.string (qs a.x),.string (qs a.y),.string (qs a.z)],.agg #[.string (qs b.x),.string (qs b.y),.string (qs b.z)]] w (aC w (.tuple #[.bool f,.int .i64 0])):=hf▸jZ a b w g (ha.vb.mono af) (hb.vb.mono af)
theorem uS (wo:Option Addr) (m wcap:Nat) (c:Nat->Nat->Int) (w:World) (g:Gd w) (hw:DX w wo m c) (hc:∀ i j,-128<=c i j/\c i j<=127):Calls Tryz.prog 7 #[.slice wo m wcap] w (aC w (.bool true)):=by
 have HG:=ai g;have HW:=ai hw;have HC:=ai hc;clear g hw hc;go_enter Tryz.func7,Tryz.ntmps7;go_upto_region 1 with fail
 by_cases hm:m<=5/\2<=m
 ·have h5_:¬ (5:Int)<((m:Nat):Int):=ae;have h2_:¬ ((m:Nat):Int)<2:=ae;have hm5:=hm.1;have hm2:=hm.2;go_wp2_with fail;refine cto (cf _ (HG.o.ext ((Ext.refl w)))) fun w1 e1=>?_
  have HX1:Hid (Ext w w1):=ai ((Ext.refl w).trans e1);clear e1;go_wp2_with fail;refine (pA wo m wcap c _ (HG.o.ext (HX1.o)) (HW.o.ext HX1.o) HC.o hm5).mono ?_;rintro e w2 ⟨ao,cap,rfl,e2,hnc,hv_⟩;have HX2:=ai (HX1.o.trans e2);clear e2;have HVQ:=ai hv_;clear hv_;have HM0_2:Hid (Fr w2 w2):=ai (Fr.refl _);obtain ⟨la_,o_,rfl,_,_,_⟩:=HVQ.o 0 ae;have HXM:=HX2;go_upto_region 4 with fail
  by_cases he:fm (fun k=>df (vt (aI c k))) m=0
  ·have HZ:=ai (FO (fun i _=>aQ c i) ae ae he);have HE:=ai he;clear he;go_wp2_with fail;refine ((HE.o▸wB (some ⟨la_,o_,none⟩) m cap (fun k=>vt (aI c k)) _ rfl _ (HG.o.ext (HX2.o)) (HVQ.o.ext HM0_2.o.out) (fun k _=>vN (aQ c k).vb af) ae)).mono ?_;rintro e w3 ⟨rfl,e3⟩;have HX3:=ai (HX2.o.trans e3);have HM0_3:=ai (HM0_2.o.ext e3);clear e3;go_wp2_with fail;have HOL_3:Hid (bV w2 w3 67 3 (.slice none 0 0) 0 (vG (fun i=>ng (aI c i)))):=ai (bV.nil _ _ _ _ _);go_wp2_with fail;go_loopw [5,4] (fun x0_ x1_ wx=>∃ k:Nat,∃ la:Option Addr,∃ ln:Nat,∃ lc:Nat,x0_ = .int .i64 k/\x1_ = .slice la ln lc/\k<=m/\Hid (Ext w wx/\Fr w2 wx/\bV w2 wx 67 3 (.slice la ln lc) k (vG (fun i=>ng (aI c i))))) (fun x0_ _ _=>m-(intOf x0_).toNat)
   case atStart=>exact ⟨0,none,0,0,rfl,rfl,Nat.zero_le _,ai ⟨HX3.o,HM0_3.o,HOL_3.o⟩⟩
   case round =>
    rename World=>w4
    obtain ⟨k,la,ln,lc,rfl,rfl,hkk,HH⟩:=hrel;have HX4:=ai HH.o.1;have HM0_4:=ai HH.o.2.1;have HOL_4:=ai HH.o.2.2;clear HH;by_cases hlt:k<m
    ·have hlt2:(k:Int)<((m:Nat):Int):=ae;have hz0_:=HZ.o 0 ae;have hzk_:=HZ.o k hlt;have HFQ:Hid (QB 8 (ck (aI c 0) (aI c k))):=ai (mA (wH (aQ c 0).iv) (aQ c k).iv hz0_ hzk_);have h1_:=Fl hz0_ hzk_;obtain ⟨sg,hsg_,hs_1⟩:∃ s:Int,(ck (aI c 0) (aI c k)).num.sign=s/\¬ s<0:=⟨_,rfl,Ed h1_.1⟩
     have h0m:0<m:=ae;have hs_2:¬ 0<dr (ck (aI c 0) (aI c k)) 1:=by have h_:=h1_.2;unfold dr;split;decide;split;decide;exact absurd h_ (by grind)
     have HZ0:=ai hz0_;have HZK:=ai hzk_;have HSG:=ai hsg_;clear hz0_ hzk_ h1_ hsg_;go_wp2_with fail;refine ax [.val (.slice (some ⟨la_,o_,none⟩) m cap),.val (.pointer (some ⟨la_,o_,none⟩)),.val (.agg #[.string (qs ((aI c 0).x)),.string (qs ((aI c 0).y)),.string (qs ((aI c 0).z))]),.val (.slice (some ⟨la_,o_,none⟩) m cap),.val (.int .i64 (k:Int)),.val (.pointer (some ⟨la_,o_+k*3,none⟩)),.val (.agg #[.string (qs ((aI c k).x)),.string (qs ((aI c k).y)),.string (qs ((aI c k).z))]),.val (.tuple #[.string (qs (ck (aI c 0) (aI c k))),.int .i64 0]),.val (.tuple #[.string (qs (ck (aI c 0) (aI c k))),.int .i64 0]),.val (.string (qs (ck (aI c 0) (aI c k)))),.val (.int .i64 0),.val (.string (qs (ck (aI c 0) (aI c k)))),.val (.int .i64 0)] (fun L g W=>True) (S:=fun _=>False) ag ag ag (Mv.refl (Ext.refl _) (fun k h=>h.elim)) ?_ ?_ ?_ ?_ (fun gv_ w5 hm_ he_=>?_)
     ·exact fun _=>trivial
     ·exact fun _ _ _ _ h _=>h
     ·exact fun _ _ _ _ _ _ h=>h
     ·skip
      exact RI 3 (.slice (some ⟨la_,o_,none⟩) m cap)<|R1 0<|J4 (fun hs_=>hs_.val 1) (fun hs_=>aw (HM0_4.o.ext hs_.mv.ext).out ((by have h_:=(cK HVQ.o 0 ae).1;simpa using h_))) (fun hs_=>aw (HM0_4.o.ext hs_.mv.ext).out ((by have h_:=(cK HVQ.o 0 ae).2.1;simpa using h_))) (fun hs_=>aw (HM0_4.o.ext hs_.mv.ext).out ((by have h_:=(cK HVQ.o 0 ae).2.2;simpa using h_)))<|RI 3 (.slice (some ⟨la_,o_,none⟩) m cap)<|RI 5 (.int .i64 (k:Int))<|R2 3 4<|J4 (fun hs_=>hs_.val 5) (fun hs_=>aw (HM0_4.o.ext hs_.mv.ext).out ((cK HVQ.o k hlt).1)) (fun hs_=>aw (HM0_4.o.ext hs_.mv.ext).out ((cK HVQ.o k hlt).2.1)) (fun hs_=>aw (HM0_4.o.ext hs_.mv.ext).out ((cK HVQ.o k hlt).2.2))<|K2 (fun hs_=>hs_.val 2) (fun hs_=>hs_.val 6) (fun hs_=>wN (aI c 0) (aI c k) _ (HG.o.ext (HX4.o.trans hs_.mv.ext)) (aQ c 0) (aQ c k) HZ0.o HZK.o)<|R1 7<|R1 8<|R1 8<|R1 9<|R1 10<|aA.nil
     simp only [dX,Ke.value,a7,Act.put,List.setIfInBounds_toArray,List.set_cons_zero,List.set_cons_succ];have HX5:=ai (HX4.o.trans hm_.ext);have HM0_5:=ai (HM0_4.o.ext hm_.ext);have HOL_5:=ai (HOL_4.o.mv hm_ (fun i hi h=>h));clear hm_ he_;go_wp2_with fail;refine ((HSG.o▸aU (ck (aI c 0) (aI c k)) _)).mono ?_;rintro e _ ⟨rfl,rfl⟩;go_wp2_with fail;refine cto (Da (ck (aI c 0) (aI c k)) _ (HG.o.ext (HX5.o)) HFQ.o) fun w6 e6=>?_
     have HX6:=ai (HX5.o.trans e6);have HM0_6:=ai (HM0_5.o.ext e6);have HOL_6:=ai (HOL_5.o.ext e6);clear e6;have cl_o____k___3:=aw HM0_6.o.out ((cK HVQ.o k hlt).1);have cl_o____k___3___1:=aw HM0_6.o.out ((cK HVQ.o k hlt).2.1);have cl_o____k___3___2:=aw HM0_6.o.out ((cK HVQ.o k hlt).2.2);go_wp2_with fail;refine cto (AI (aI c k) _ (HG.o.ext (HX6.o)) (aQ c k)) fun w7 e7=>?_
     have HX7:=ai (HX6.o.trans e7);have HM0_7:=ai (HM0_6.o.ext e7);have HOL_7:=ai (HOL_6.o.ext e7);clear e7 cl_o____k___3 cl_o____k___3___1 cl_o____k___3___2;go_upto_region 16 with fail
     have HGFM0B0:Hid (w2.heap.size<=w7.heap.size):=ai (Nat.le_trans HM0_7.o.out.size ah);refine au (fun W=>Ext w W/\Fr w2 W/\bV w2 W 67 3 (.slice la ln lc) k (vG (fun i=>ng (aI c i)))/\ak W (w7.heap.size) (#[.string (qs ((ng (aI c k)).x)),.string (qs ((ng (aI c k)).y)),.string (qs ((ng (aI c k)).z))]) 67) ⟨(HX7.o.alloc _),(HM0_7.o.alloc _),(HOL_7.o.alloc _),(ak.nw (#[.string (qs ((ng (aI c k)).x)),.string (qs ((ng (aI c k)).y)),.string (qs ((ng (aI c k)).z))]) 67)⟩ ?_;rintro w8 ⟨e8,bM0_8,bOL_8,bB0_8⟩;have HX8:=ai e8;have HM0_8:=ai bM0_8;have HOL_8:=ai bOL_8;have HB0_8:=ai bB0_8;have HGEB0:Hid (w.heap.size<=w7.heap.size):=ai (HX7.o.size);clear e8 bM0_8 bOL_8 bB0_8;have c0_0:=HB0_8.o.cell 0 rfl;have c0_1:=HB0_8.o.cell 1 rfl;have c0_2:=HB0_8.o.cell 2 rfl;go_wp2_with (
      at_builtin;refine wpList_plain rfl fun K_ hK_=>gJ (X:=w2) (H:=(h3 (.string (qs ((ng (aI c k)).x))) (.string (qs ((ng (aI c k)).y))) (.string (qs ((ng (aI c k)).z))))) (ad:=⟨w8.heap.size,0,none⟩) (m:=1) (c:=1) (v:=.slice la ln lc) rfl rfl rfl vQ Ay rfl (HM0_8.o.alloc _).out (HOL_8.o.alloc _) (fun _=>af) (F4 (ak.nw (#[.string (qs ((ng (aI c k)).x)),.string (qs ((ng (aI c k)).y)),.string (qs ((ng (aI c k)).z))]) 67)) Gg (by unfold maxLen;omega) ae (fun a9_ n9_ c9_ w9 hA_=>hK_ _ _ ?_)
      have HX9:Hid (Ext w w9):=ai (HXM.o.trans hA_.mv.ext);have HM0_9:Hid (Fr w2 w9):=ai ⟨hA_.mv.ext⟩;have HOL_9:Hid (bV w2 w9 67 3 (.slice a9_ n9_ c9_) (k+1) (vG (fun i=>ng (aI c i)))):=ai (vO (p:=(fun i=>ng (aI c i))) hA_);clear hA_ c0_0 c0_1 c0_2
     )
     go_roundw
     case rel=>exact ⟨k+1,_,_,_,by go_num,rfl,ae,ai ⟨HX9.o,HM0_9.o,HOL_9.o⟩⟩
     case measure=>simp [intOf];omega
    ·have hk2:k=m:=ae;have hge:¬ (k:Int)<((m:Nat):Int):=ae;have hb_:bV w2 w4 67 3 (.slice la ln lc) m (vG (fun i=>ng (aI c i))):=by rw [← hk2];exact HOL_4.o
     obtain ⟨hln_,hbc,hv_⟩:=Cl hb_;subst hln_;have HVB:=ai hv_;clear hv_ hb_;have HM1_4:Hid (Fr w4 w4):=ai (Fr.refl _);go_wp2_with fail;refine cto (Bd (HG.o.ext (HX4.o)) (HVQ.o.ext HM0_4.o.out) (fun i _=>aQ c i) HZ.o ae ae hnc rfl) fun w5 e5=>?_
     have HX5:=ai (HX4.o.trans e5);have HM0_5:=ai (HM0_4.o.ext e5);have HM1_5:=ai (HM1_4.o.ext e5);clear e5;go_wp2_with fail;refine cto (Bd (HG.o.ext ((HX5.o.alloc _))) (HVB.o.ext (HM1_5.o.alloc _).out) (fun i _=>wk (aQ c i)) (fun i hi=>Gh (HZ.o i hi)) ae ae hbc (xm m (aI c) m)) fun w6 e6=>?_
     have HGFM0B0:Hid (w2.heap.size<=w5.heap.size):=ai (Nat.le_trans HM0_5.o.out.size ah);have HGFM1B0:Hid (w4.heap.size<=w5.heap.size):=ai (Nat.le_trans HM1_5.o.out.size ah);have HX6:Hid (Ext w w6):=ai ((HX5.o.alloc _).trans e6);have HM0_6:Hid (Fr w2 w6):=ai (((HM0_5.o.alloc _)).ext e6);have HM1_6:Hid (Fr w4 w6):=ai (((HM1_5.o.alloc _)).ext e6);have HB0_6:Hid (ak w6 (w5.heap.size) (#[.string ((stx (aL m (aI c) m)).x),.string ((stx (aL m (aI c) m)).y),.string ((stx (aL m (aI c) m)).z)]) 67):=ai (((ak.nw (#[.string ((stx (aL m (aI c) m)).x),.string ((stx (aL m (aI c) m)).y),.string ((stx (aL m (aI c) m)).z)]) 67)).ext e6);have HGEB0:Hid (w.heap.size<=w5.heap.size):=ai (HX5.o.size);clear e6;go_upto_region 19 with fail
     have HGFM0B1:Hid (w2.heap.size<=w6.heap.size):=ai (Nat.le_trans HM0_6.o.out.size ah);have HGFM1B1:Hid (w4.heap.size<=w6.heap.size):=ai (Nat.le_trans HM1_6.o.out.size ah);refine au (fun W=>Ext w W/\Fr w2 W/\Fr w4 W/\ak W (w5.heap.size) (#[.string ((stx (aL m (aI c) m)).x),.string ((stx (aL m (aI c) m)).y),.string ((stx (aL m (aI c) m)).z)]) 67/\ak W (w6.heap.size) (#[.string ((stx (aL m (aI c) m)).x),.string ((stx (aL m (aI c) m)).y),.string ((stx (aL m (aI c) m)).z)]) 67) ⟨(HX6.o.alloc _),(HM0_6.o.alloc _),(HM1_6.o.alloc _),(HB0_6.o.alloc _),(ak.nw (#[.string ((stx (aL m (aI c) m)).x),.string ((stx (aL m (aI c) m)).y),.string ((stx (aL m (aI c) m)).z)]) 67)⟩ ?_;rintro w7 ⟨e7,bM0_7,bM1_7,bB0_7,bB1_7⟩;have HX7:=ai e7;have HM0_7:=ai bM0_7;have HM1_7:=ai bM1_7;have HB0_7:=ai bB0_7;have HB1_7:=ai bB1_7;have HGEB1:Hid (w.heap.size<=w6.heap.size):=ai (HX6.o.size);clear e7 bM0_7 bM1_7 bB0_7 bB1_7;have hs1:(2:Int)<=((cap:Nat):Int):=ae;have hs2:2<=cap:=ae;have h0m:0<m:=ae;have h1m:(1:Int)<((m:Nat):Int):=ae;by_cases hc:eu (bZ (aI c 0) (aI c 1))
     ·have HCF:Hid (yK (Br (aL 2 (aI c) 2))=true):=ai (Df (fun i _=>aQ c i) hc);have HPF:Hid (z3 (bZ (aI c 0) (aI c 1)).x (bZ (aI c 0) (aI c 1)).y (bZ (aI c 0) (aI c 1)).z=false):=ai (decide_eq_false hc);clear hc;go_wp2_with fail;refine cto (DQ (HG.o.ext (HX7.o)) (mH.less (HVQ.o.ext HM0_7.o.out) (by omega):lT _ _ 2 (aI c)) (fun i _=>aQ c i) (fun i hi=>HZ.o i ae) af af ae rfl HCF.o) fun w8 e8=>?_
      have HX8:=ai (HX7.o.trans e8);have HM0_8:=ai (HM0_7.o.ext e8);have HM1_8:=ai (HM1_7.o.ext e8);have HB0_8:=ai (HB0_7.o.ext e8);have HB1_8:=ai (HB1_7.o.ext e8);clear e8;go_wp2_with fail;have HGFM0B2:Hid (w2.heap.size<=w8.heap.size):=ai (Nat.le_trans HM0_8.o.out.size ah);have HGFM1B2:Hid (w4.heap.size<=w8.heap.size):=ai (Nat.le_trans HM1_8.o.out.size ah);refine au (fun W=>Ext w W/\Fr w2 W/\Fr w4 W/\ak W (w5.heap.size) (#[.string ((stx (aL m (aI c) m)).x),.string ((stx (aL m (aI c) m)).y),.string ((stx (aL m (aI c) m)).z)]) 67/\ak W (w6.heap.size) (#[.string ((stx (aL m (aI c) m)).x),.string ((stx (aL m (aI c) m)).y),.string ((stx (aL m (aI c) m)).z)]) 67) ⟨(HX8.o.alloc _),(HM0_8.o.alloc _),(HM1_8.o.alloc _),(HB0_8.o.alloc _),(HB1_8.o.alloc _)⟩ ?_;rintro w9 ⟨e9,bM0_9,bM1_9,bB0_9,bB1_9⟩;have HX9:=ai e9;have HM0_9:=ai bM0_9;have HM1_9:=ai bM1_9;have HB0_9:=ai bB0_9;have HB1_9:=ai bB1_9;clear e9 bM0_9 bM1_9 bB0_9 bB1_9;refine ax [.val (.slice (some ⟨la_,o_,none⟩) m cap),.val (.pointer (some ⟨la_,o_,none⟩)),.val (.agg #[.string (qs ((aI c 0).x)),.string (qs ((aI c 0).y)),.string (qs ((aI c 0).z))]),.val (.slice (some ⟨la_,o_,none⟩) m cap),.val (.pointer (some ⟨la_,o_+3,none⟩)),.val (.agg #[.string (qs ((aI c 1).x)),.string (qs ((aI c 1).y)),.string (qs ((aI c 1).z))]),.val (.tuple #[.bool false,.int .i64 0]),.val (.tuple #[.bool false,.int .i64 0]),.val (.bool false),.val (.int .i64 0),.val (.bool false),.val (.int .i64 0)] (fun L g W=>True) (S:=fun _=>False) ag ag ag (Mv.refl (Ext.refl _) (fun k h=>h.elim)) ?_ ?_ ?_ ?_ (fun gv_ w10 hm_ he_=>?_)
      ·exact fun _=>trivial
      ·exact fun _ _ _ _ h _=>h
      ·exact fun _ _ _ _ _ _ h=>h
      ·skip
       exact RI 3 (.slice (some ⟨la_,o_,none⟩) m cap)<|R1 0<|J4 (fun hs_=>hs_.val 1) (fun hs_=>aw (HM0_9.o.ext hs_.mv.ext).out ((by have h_:=(cK HVQ.o 0 ae).1;simpa using h_))) (fun hs_=>aw (HM0_9.o.ext hs_.mv.ext).out ((by have h_:=(cK HVQ.o 0 ae).2.1;simpa using h_))) (fun hs_=>aw (HM0_9.o.ext hs_.mv.ext).out ((by have h_:=(cK HVQ.o 0 ae).2.2;simpa using h_)))<|RI 3 (.slice (some ⟨la_,o_,none⟩) m cap)<|R1 3<|J4 (fun hs_=>hs_.val 4) (fun hs_=>aw (HM0_9.o.ext hs_.mv.ext).out ((by have h_:=(cK HVQ.o 1 ae).1;simpa using h_))) (fun hs_=>aw (HM0_9.o.ext hs_.mv.ext).out ((by have h_:=(cK HVQ.o 1 ae).2.1;simpa using h_))) (fun hs_=>aw (HM0_9.o.ext hs_.mv.ext).out ((by have h_:=(cK HVQ.o 1 ae).2.2;simpa using h_)))<|K2 (fun hs_=>hs_.val 2) (fun hs_=>hs_.val 5) (fun hs_=>AJ (aI c 0) (aI c 1) _ (HG.o.ext (HX9.o.trans hs_.mv.ext)) (aQ c 0) (aQ c 1) HPF.o)<|R1 6<|R1 7<|R1 7<|R1 8<|R1 9<|aA.nil
      simp only [dX,Ke.value,a7,Act.put,List.setIfInBounds_toArray,List.set_cons_zero,List.set_cons_succ];have HX10:=ai (HX9.o.trans hm_.ext);have HM0_10:=ai (HM0_9.o.ext hm_.ext);have HM1_10:=ai (HM1_9.o.ext hm_.ext);have HB0_10:=ai (hm_.ay HB0_9.o (fun h=>h));have HB1_10:=ai (hm_.ay HB1_9.o (fun h=>h));clear hm_ he_;have c0_0:=HB0_10.o.cell 0 rfl;have c0_1:=HB0_10.o.cell 1 rfl;have c0_2:=HB0_10.o.cell 2 rfl;have c1_0:=HB1_10.o.cell 0 rfl;have c1_1:=HB1_10.o.cell 1 rfl;have c1_2:=HB1_10.o.cell 2 rfl;go_wp2;go_ret;exact ⟨rfl,HX10.o⟩
     ·have HCF:Hid (yK (Br (aL 2 (aI c) 2))=false):=ai (A2 hc);have HPF:Hid (z3 (bZ (aI c 0) (aI c 1)).x (bZ (aI c 0) (aI c 1)).y (bZ (aI c 0) (aI c 1)).z=true):=ai (decide_eq_true (Classical.not_not.1 hc));clear hc;go_wp2_with fail;refine cto (DQ (HG.o.ext (HX7.o)) (mH.less (HVQ.o.ext HM0_7.o.out) (by omega):lT _ _ 2 (aI c)) (fun i _=>aQ c i) (fun i hi=>HZ.o i ae) af af ae rfl HCF.o) fun w8 e8=>?_
      have HX8:=ai (HX7.o.trans e8);have HM0_8:=ai (HM0_7.o.ext e8);have HM1_8:=ai (HM1_7.o.ext e8);have HB0_8:=ai (HB0_7.o.ext e8);have HB1_8:=ai (HB1_7.o.ext e8);clear e8;go_wp2_with fail;have HGFM0B2:Hid (w2.heap.size<=w8.heap.size):=ai (Nat.le_trans HM0_8.o.out.size ah);have HGFM1B2:Hid (w4.heap.size<=w8.heap.size):=ai (Nat.le_trans HM1_8.o.out.size ah);refine au (fun W=>Ext w W/\Fr w2 W/\Fr w4 W/\ak W (w5.heap.size) (#[.string ((stx (aL m (aI c) m)).x),.string ((stx (aL m (aI c) m)).y),.string ((stx (aL m (aI c) m)).z)]) 67/\ak W (w6.heap.size) (#[.string ((stx (aL m (aI c) m)).x),.string ((stx (aL m (aI c) m)).y),.string ((stx (aL m (aI c) m)).z)]) 67) ⟨(HX8.o.alloc _),(HM0_8.o.alloc _),(HM1_8.o.alloc _),(HB0_8.o.alloc _),(HB1_8.o.alloc _)⟩ ?_;rintro w9 ⟨e9,bM0_9,bM1_9,bB0_9,bB1_9⟩;have HX9:=ai e9;have HM0_9:=ai bM0_9;have HM1_9:=ai bM1_9;have HB0_9:=ai bB0_9;have HB1_9:=ai bB1_9;clear e9 bM0_9 bM1_9 bB0_9 bB1_9;refine ax [.val (.slice (some ⟨la_,o_,none⟩) m cap),.val (.pointer (some ⟨la_,o_,none⟩)),.val (.agg #[.string (qs ((aI c 0).x)),.string (qs ((aI c 0).y)),.string (qs ((aI c 0).z))]),.val (.slice (some ⟨la_,o_,none⟩) m cap),.val (.pointer (some ⟨la_,o_+3,none⟩)),.val (.agg #[.string (qs ((aI c 1).x)),.string (qs ((aI c 1).y)),.string (qs ((aI c 1).z))]),.val (.tuple #[.bool true,.int .i64 0]),.val (.tuple #[.bool true,.int .i64 0]),.val (.bool true),.val (.int .i64 0),.val (.bool true),.val (.int .i64 0)] (fun L g W=>True) (S:=fun _=>False) ag ag ag (Mv.refl (Ext.refl _) (fun k h=>h.elim)) ?_ ?_ ?_ ?_ (fun gv_ w10 hm_ he_=>?_)
      ·exact fun _=>trivial
      ·exact fun _ _ _ _ h _=>h
      ·exact fun _ _ _ _ _ _ h=>h
      ·skip
       exact RI 3 (.slice (some ⟨la_,o_,none⟩) m cap)<|R1 0<|J4 (fun hs_=>hs_.val 1) (fun hs_=>aw (HM0_9.o.ext hs_.mv.ext).out ((by have h_:=(cK HVQ.o 0 ae).1;simpa using h_))) (fun hs_=>aw (HM0_9.o.ext hs_.mv.ext).out ((by have h_:=(cK HVQ.o 0 ae).2.1;simpa using h_))) (fun hs_=>aw (HM0_9.o.ext hs_.mv.ext).out ((by have h_:=(cK HVQ.o 0 ae).2.2;simpa using h_)))<|RI 3 (.slice (some ⟨la_,o_,none⟩) m cap)<|R1 3<|J4 (fun hs_=>hs_.val 4) (fun hs_=>aw (HM0_9.o.ext hs_.mv.ext).out ((by have h_:=(cK HVQ.o 1 ae).1;simpa using h_))) (fun hs_=>aw (HM0_9.o.ext hs_.mv.ext).out ((by have h_:=(cK HVQ.o 1 ae).2.1;simpa using h_))) (fun hs_=>aw (HM0_9.o.ext hs_.mv.ext).out ((by have h_:=(cK HVQ.o 1 ae).2.2;simpa using h_)))<|K2 (fun hs_=>hs_.val 2) (fun hs_=>hs_.val 5) (fun hs_=>AJ (aI c 0) (aI c 1) _ (HG.o.ext (HX9.o.trans hs_.mv.ext)) (aQ c 0) (aQ c 1) HPF.o)<|R1 6<|R1 7<|R1 7<|R1 8<|R1 9<|aA.nil
      simp only [dX,Ke.value,a7,Act.put,List.setIfInBounds_toArray,List.set_cons_zero,List.set_cons_succ];have HX10:=ai (HX9.o.trans hm_.ext);have HM0_10:=ai (HM0_9.o.ext hm_.ext);have HM1_10:=ai (HM1_9.o.ext hm_.ext);have HB0_10:=ai (hm_.ay HB0_9.o (fun h=>h));have HB1_10:=ai (hm_.ay HB1_9.o (fun h=>h));clear hm_ he_;have c0_0:=HB0_10.o.cell 0 rfl;have c0_1:=HB0_10.o.cell 1 rfl;have c0_2:=HB0_10.o.cell 2 rfl;have c1_0:=HB1_10.o.cell 0 rfl;have c1_1:=HB1_10.o.cell 1 rfl;have c1_2:=HB1_10.o.cell 2 rfl;go_wp2;go_ret;exact ⟨rfl,HX10.o⟩
  ·have he2:¬ fm (fun k=>df (vt (aI c k))) m=0:=he;go_wp2_with fail;refine cto (wB (some ⟨la_,o_,none⟩) m cap (fun k=>vt (aI c k)) _ rfl _ (HG.o.ext (HX2.o)) (HVQ.o.ext HM0_2.o.out) (fun k _=>vN (aQ c k).vb af) ae) fun w3 e3=>?_
   have HX3:=ai (HX2.o.trans e3);have HM0_3:=ai (HM0_2.o.ext e3);clear e3;go_wp2;go_ret;exact ⟨rfl,HX3.o⟩
 ·by_cases h5:5<m
  ·have h5_:(5:Int)<((m:Nat):Int):=ae;go_wp2_with fail;refine cto (cf _ (HG.o.ext ((Ext.refl w)))) fun w1 e1=>?_
   have HX1:Hid (Ext w w1):=ai ((Ext.refl w).trans e1);clear e1;go_wp2_with fail;refine cto (cf _ (HG.o.ext (HX1.o))) fun w2 e2=>?_
   have HX2:=ai (HX1.o.trans e2);clear e2;go_wp2;go_ret;exact ⟨rfl,HX2.o⟩
  ·have h5_:¬ (5:Int)<((m:Nat):Int):=ae;have h2_:((m:Nat):Int)<2:=ae;go_wp2_with fail;refine cto (cf _ (HG.o.ext ((Ext.refl w)))) fun w1 e1=>?_
   have HX1:Hid (Ext w w1):=ai ((Ext.refl w).trans e1);clear e1;go_wp2_with fail;refine cto (cf _ (HG.o.ext (HX1.o))) fun w2 e2=>?_
   have HX2:=ai (HX1.o.trans e2);clear e2;go_wp2;go_ret;exact ⟨rfl,HX2.o⟩
end Go.Proofs.YtmahadmefplbnaaGreatDoor
