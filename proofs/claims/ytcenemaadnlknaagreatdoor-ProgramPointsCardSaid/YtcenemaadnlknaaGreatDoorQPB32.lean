/- Part 32 of the proof: S3. -/
import Derived.Test.YtcenemaadnlknaaGreatDoorQPB29
import Derived.Test.YtcenemaadnlknaaGreatDoorQPB31
set_option maxRecDepth 100000
set_option maxHeartbeats 2000000
set_option linter.unusedVariables false
theorem Go.Proofs.YtcenemaadnlknaaGreatDoor.Hi32 {p:Prop} (h:p):Go.RowKit.Hid p:=h
namespace Go.Proofs.YtcenemaadnlknaaGreatDoor
open Go Go.RowKit
theorem dot_go (a1o_ a2o_:Option Addr) (c1_ c2_ n:Nat) (x y:Nat->Rat) {q r:Nat} (w:World) (g:Gd w) (h1:∀ i,i<n->∃ a,a1o_=some a/\w.cell? (a.add i)=some (.string (qs (x i)))) (h2:∀ i,i<n->∃ a,a2o_=some a/\w.cell? (a.add i)=some (.string (qs (y i)))) (hq:∀ i,i<n->QB q (x i)) (hr:∀ i,i<n->QB r (y i)) (hm:n<=1000000) (hsz:n*(q+r+1)<=198):Calls Tryz.prog 56 #[.slice a1o_ n c1_,.slice a2o_ n c2_] w (Ret w (.string (qs (smq n (fun j=>x j*y j))))):=by
 have HG:=Hi32 g
 have HA:=Hi32 h1
 have HB:=Hi32 h2
 have HQ:=Hi32 hq
 have HR:=Hi32 hr
 clear g h1 h2 hq hr
 have HS:Hid (∀ i,i<=n->QB 199 (smq i (fun j=>x j*y j))):=Hi32 (fun i hi=>(smq_qb HQ.out HR.out i hi).mono (dot_sz hi hsz))
 have hq3:n≠0->q+r+1<=198:=fun h=>Nat.le_trans (Nat.le_mul_of_pos_left _ (by omega)) hsz
 clear hsz
 go_enter Tryz.func56,Tryz.ntmps56
 go_wp2_with fail
 go_loopw [9,5] (fun x0_ x1_ wx=>∃ k:Nat,x0_ = .int .i64 k/\x1_ = .string (qs (smq k (fun j=>x j*y j)))/\k<=n/\Hid (Ext w wx)) (fun x0_ x1_ _=>n-(intOf x0_).toNat)
 case atStart=>exact ⟨0,rfl,by simp only [smq];rw [qs_zero],Nat.zero_le _,Hi32 (Ext.refl w)⟩
 case round =>
  rename World=>w1
  obtain ⟨k,rfl,rfl,hk,HX0⟩:=hrel
  have HX1:Hid (Ext w w1):=HX0;clear HX0
  by_cases hlt:k<n
  ·have hlt2:(k:Int)<(n:Int):=by omega
   obtain ⟨a1_,rfl,d1_⟩:=HA.out k hlt
   obtain ⟨a2_,rfl,d2_⟩:=HB.out k hlt
   have HD1:=Hi32 d1_;have HD2:=Hi32 d2_;clear d1_ d2_
   by_cases hz:x k=0
   ·have z1:=qs_is0 hz
    have ES:smq (k+1) (fun j=>x j*y j)=smq k (fun j=>x j*y j):=by rw [smq,hz];grind
    have HE:=Hi32 ES;clear ES hz
    have ca_k:=keepA HX1.out (HD1.out)
    go_wp2_with fail
    go_roundw
    case rel=>exact ⟨k+1,by go_num,by rw [HE.out],by omega,Hi32 HX1.out⟩
    case measure=>simp [intOf];omega
   ·by_cases hy:y k=0
    ·have z1:=qs_not0 hz
     have z2:=qs_is0 hy
     have ES:smq (k+1) (fun j=>x j*y j)=smq k (fun j=>x j*y j):=by rw [smq,hy];grind
     have HE:=Hi32 ES;clear ES hy hz
     have ca_k:=keepA HX1.out (HD1.out)
     have cb_k:=keepA HX1.out (HD2.out)
     go_wp2_with fail
     go_roundw
     case rel=>exact ⟨k+1,by go_num,by rw [HE.out],by omega,Hi32 HX1.out⟩
     case measure=>simp [intOf];omega
    ·have z1:=qs_not0 hz
     have z2:=qs_not0 hy
     clear hz hy
     have ca_k:=keepA HX1.out (HD1.out)
     have cb_k:=keepA HX1.out (HD2.out)
     go_wp2_with fail
     clear ca_k cb_k
     refine region_e [.val (.string (qs (smq k (fun j=>x j*y j)))),.val (.slice (some a1_) n c1_),.val (.int .i64 (k:Int)),.val (.pointer (some (a1_.add k))),.val (.string (qs (x k))),.val (.slice (some a2_) n c2_),.val (.int .i64 (k:Int)),.val (.pointer (some (a2_.add k))),.val (.string (qs (y k))),.val (.string (qs (x k*y k))),.val (.string (qs (smq k (fun j=>x j*y j)+x k*y k))),.val (.string (qs (smq k (fun j=>x j*y j)+x k*y k)))] (fun L g W=>True) (S:=fun _=>False) (by kernel_rfl) (by kernel_rfl) (by kernel_rfl) (Mv.refl HX1.out (fun k h=>h.elim)) ?_ ?_ ?_ ?_ (fun gv_ w2 hm_ he_=>?_)
     ·exact fun _=>trivial
     ·exact fun _ _ _ _ h _=>h
     ·exact fun _ _ _ _ _ _ h=>h
     ·skip
      refine RV (fun A_ hs_ K_ hK_=>?_) ?_;· have q5_:=(hs_.old 5:A_.tmps[5]?.getD undef = .string (qs (smq k (fun j=>x j*y j))));go_simp;exact fin_ hK_
      refine RV (fun A_ hs_ K_ hK_=>?_) ?_;· have q0_:=(hs_.old 0:A_.tmps[0]?.getD undef = .slice (some a1_) n c1_);go_simp;exact fin_ hK_
      refine RV (fun A_ hs_ K_ hK_=>?_) ?_;· have q6_:=(hs_.old 6:A_.tmps[6]?.getD undef = .int .i64 (k:Int));go_simp;exact fin_ hK_
      refine RV (fun A_ hs_ K_ hK_=>?_) ?_;· have q25_:=hs_.val 1;have q26_:=hs_.val 2;go_simp;exact fin_ hK_
      refine RV (fun A_ hs_ K_ hK_=>?_) ?_;· have q27_:=hs_.val 3;have ca_k:=keepA hs_.mv.ext (HD1.out);go_simp;exact fin_ hK_
      refine RV (fun A_ hs_ K_ hK_=>?_) ?_;· have q1_:=(hs_.old 1:A_.tmps[1]?.getD undef = .slice (some a2_) n c2_);go_simp;exact fin_ hK_
      refine RV (fun A_ hs_ K_ hK_=>?_) ?_;· have q6_:=(hs_.old 6:A_.tmps[6]?.getD undef = .int .i64 (k:Int));go_simp;exact fin_ hK_
      refine RV (fun A_ hs_ K_ hK_=>?_) ?_;· have q29_:=hs_.val 5;have q30_:=hs_.val 6;go_simp;exact fin_ hK_
      refine RV (fun A_ hs_ K_ hK_=>?_) ?_;· have q31_:=hs_.val 7;have cb_k:=keepA hs_.mv.ext (HD2.out);go_simp;exact fin_ hK_
      refine RV (fun A_ hs_ K_ hK_=>?_) ?_;· have q28_:=hs_.val 4;have q32_:=hs_.val 8;go_simp;refine (rmul_c (x k) (y k) _ (HG.out.ext hs_.mv.ext) (HQ.out k hlt) (HR.out k hlt) (by omega) (by omega)).mono ?_;rintro e W9_ ⟨rfl,e9_⟩;exact hK_.out _ e9_
      refine RV (fun A_ hs_ K_ hK_=>?_) ?_;· have q24_:=hs_.val 0;have q33_:=hs_.val 9;go_simp;refine (radd_c (smq k (fun j=>x j*y j)) (x k*y k) _ (HG.out.ext hs_.mv.ext) (HS.out k hk) ((HQ.out k hlt).mul (HR.out k hlt)) (by omega) (by omega)).mono ?_;rintro e W9_ ⟨rfl,e9_⟩;exact hK_.out _ e9_
      refine RV (fun A_ hs_ K_ hK_=>?_) ?_;· have q34_:=hs_.val 10;go_simp;exact fin_ hK_
      exact RnEL.nil
     simp only [fse,Ke.value,puts,Act.put,List.setIfInBounds_toArray,List.set_cons_zero,List.set_cons_succ]
     have HX2:Hid (Ext w w2):=Hi32 hm_.ext
     clear hm_ he_
     go_wp2_with fail
     go_roundw
     case rel=>exact ⟨k+1,by go_num,by rw [smq],by omega,Hi32 HX2.out⟩
     case measure=>simp [intOf];omega
  ·have hk2:k=n:=by omega
   subst hk2
   have hge:¬ (k:Int)<(k:Int):=by omega
   go_wp2
   go_ret
   exact ⟨rfl,HX1.out⟩
theorem dot_c (va vb:Value) (n:Nat) (x y:Nat->Rat) {q r:Nat} (w:World) (g:Gd w) (ha:Rq w va n x) (hb:Rq w vb n y) (hq:∀ i,i<n->QB q (x i)) (hr:∀ i,i<n->QB r (y i)) (hm:n<=1000000) (hsz:n*(q+r+1)<=198) :
    Calls Tryz.prog 56 #[va,vb] w (Ret w (.string (qs (smq n (fun j=>x j*y j))))):=by
 obtain ⟨a1,c1,rfl,_,_,h1⟩:=ha
 obtain ⟨a2,c2,rfl,_,_,h2⟩:=hb
 exact dot_go a1 a2 c1 c2 n x y w g h1 h2 hq hr hm hsz
end Go.Proofs.YtcenemaadnlknaaGreatDoor
