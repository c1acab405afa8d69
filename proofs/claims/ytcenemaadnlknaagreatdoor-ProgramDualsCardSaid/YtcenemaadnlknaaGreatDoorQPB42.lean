/- Part 42 of the proof: S28, S30, S44. -/
import Derived.Test.YtcenemaadnlknaaGreatDoorQPB29
import Derived.Test.YtcenemaadnlknaaGreatDoorQPB40
import Derived.Test.YtcenemaadnlknaaGreatDoorQPB41
set_option maxRecDepth 100000
set_option maxHeartbeats 2000000
set_option linter.unusedSimpArgs false
set_option linter.unusedVariables false
theorem Go.Proofs.YtcenemaadnlknaaGreatDoor.Hi42 {p:Prop} (h:p):Go.RowKit.Hid p:=h
namespace Go.Proofs.YtcenemaadnlknaaGreatDoor
open Go Go.RowKit
theorem all_next {t:Nat->ByteArray} {k:Nat} (h:rq (t k)=true) (h2:∀ i,i<k->rq (t i)=true):∀ i,i<k+1->rq (t i)=true:=fun i hi=>by
 by_cases e:i=k
 ·rw [e];exact h
 ·exact h2 i (by omega)
theorem any_at {t:Nat->ByteArray} {k m:Nat} (hk:k<m) (h:rq (t k)=false):any_ (fun i=>!rq (t i)) m=true:=any_true.2 ⟨k,hk,by rw [h];rfl⟩
theorem any_none {t:Nat->ByteArray} {k m:Nat} (h:∀ i,i<k->rq (t i)=true) (hk:k=m):¬ any_ (fun i=>!rq (t i)) m=true:=by
 rw [Bool.not_eq_true,any_false];intro i hi;rw [h i (by omega)];rfl
theorem list7_go (ao_:Option Addr) (ac m n:Nat) (t:Nat->ByteArray) (w:World) (g:Gd w) (hr_:∀ i,i<m->∃ a,ao_=some a/\w.cell? (a.add i)=some (.string (t i))) (hl:∀ i,i<m->(t i).size<=1000000) (hm:m<=1000000):Calls Tryz.prog 21 #[.slice ao_ m ac,.int .i64 (n:Int)] w (Ret w (.int .i64 (lerr t m n))):=by
 have HG:=Hi42 g
 have HA:=Hi42 hr_
 have HL:=Hi42 hl
 clear g hr_ hl
 go_enter Tryz.func21,Tryz.ntmps21
 go_upto_region 1 with fail
 by_cases h1:m≠n
 ·have h2:¬ (m:Int)=(n:Int):=by omega
  have h3:((m:Int) != (n:Int))=true:=by simpa using h2
  go_wp2
  go_ret
  exact ⟨by rw [lerr,if_pos h1];rfl,(Ext.refl w)⟩
 ·obtain rfl:=Classical.not_not.1 h1
  go_wp2_with fail
  go_loopw [5] (fun x0_ wx=>∃ k:Nat,x0_ = .int .i64 k/\k<=m/\Hid (∀ i,i<k->rq (t i)=true)/\Hid (Ext w wx)) (fun x0_ _=>m-(intOf x0_).toNat)
  case atStart=>exact ⟨0,rfl,Nat.zero_le _,Hi42 ((fun i hi=>absurd hi (Nat.not_lt_zero i))),Hi42 (Ext.refl w)⟩
  case round =>
   rename World=>w1
   obtain ⟨k,rfl,hkk,HGk,HH⟩:=hrel
   have HX1:=Hi42 HH.out
   clear HH
   by_cases hlt:k<m
   ·have hlt2:(k:Int)<((m:Nat):Int):=by omega
    obtain ⟨aa,rfl,za_⟩:=HA.out k hlt
    have HCa:=Hi42 za_;clear za_
    by_cases hr:rq (t k)=true
    ·have HRK:=Hi42 hr;clear hr
     have ca_k:=keepA HX1.out (HCa.out)
     go_wp2_with fail
     refine ((HRK.out▸r7_c (t k) _ (HG.out.ext (HX1.out)) (HL.out k hlt))).mono ?_;rintro e w2 ⟨rfl,e2⟩
     have HX2:=Hi42 (HX1.out.trans e2)
     clear e2 ca_k
     go_wp2_with fail
     go_roundw
     case rel=>exact ⟨k+1,by go_num,by omega,Hi42 (all_next HRK.out HGk.out),Hi42 HX2.out⟩
     case measure=>simp [intOf];omega
    ·have hr2:rq (t k)=false:=by simpa using hr
     have HRK:=Hi42 hr2;clear hr2 hr
     have ca_k:=keepA HX1.out (HCa.out)
     go_wp2_with fail
     refine ((HRK.out▸r7_c (t k) _ (HG.out.ext (HX1.out)) (HL.out k hlt))).mono ?_;rintro e w2 ⟨rfl,e2⟩
     have HX2:=Hi42 (HX1.out.trans e2)
     clear e2 ca_k
     go_wp2
     go_ret
     exact ⟨by rw [lerr,if_neg (fun h=>h rfl),if_pos (any_at hlt HRK.out)];rfl,HX2.out⟩
   ·have hk2:k=m:=by omega
    have hge:¬ (k:Int)<((m:Nat):Int):=by omega
    go_wp2
    go_ret
    exact ⟨by rw [lerr,if_neg (fun h=>h rfl),if_neg (any_none HGk.out hk2)];rfl,HX1.out⟩
theorem list7_c {w:World} {v:Value} {m n:Nat} {t:Nat->ByteArray} (g:Gd w) (h:Rs w v m t) (hl:∀ i,i<m->(t i).size<=1000000) (hm:m<=1000000):Calls Tryz.prog 21 #[v,.int .i64 (n:Int)] w (Ret w (.int .i64 (lerr t m n))):=by
 obtain ⟨ao,cap,rfl,_,_,hc⟩:=h
 exact list7_go ao cap m n t w g hc hl hm
def sameB (n m:Nat) (x y:Nat->Int):Bool:=open Classical in decide (n=m/\∀ i,i<n->x i=y i)
theorem eq_next {x y:Nat->Int} {k:Nat} (h:x k=y k) (h2:∀ i,i<k->x i=y i):∀ i,i<k+1->x i=y i:=fun i hi=>by
 by_cases e:i=k
 ·rw [e];exact h
 ·exact h2 i (by omega)
theorem same_go (a1o_ a2o_:Option Addr) (c1_ c2_ n m:Nat) (x y:Nat->Int) (w:World) (h1_:∀ i,i<n->∃ a,a1o_=some a/\w.cell? (a.add i)=some (.int .i64 (x i))) (h2_:∀ i,i<m->∃ a,a2o_=some a/\w.cell? (a.add i)=some (.int .i64 (y i))) (hn:n<=1000000):Calls Tryz.prog 26 #[.slice a1o_ n c1_,.slice a2o_ m c2_] w (Ret w (.bool (sameB n m x y))):=by
 have HA:=Hi42 h1_
 have HB:=Hi42 h2_
 clear h1_ h2_
 go_enter Tryz.func26,Tryz.ntmps26
 go_upto_region 1 with fail
 by_cases h1:n≠m
 ·have h2:¬ (n:Int)=(m:Int):=by omega
  have h3:((n:Int) != (m:Int))=true:=by simpa using h2
  go_wp2
  go_ret
  exact ⟨by rw [sameB,decide_eq_false (fun h=>h1 h.1)];rfl,(Ext.refl w)⟩
 ·obtain rfl:=Classical.not_not.1 h1
  go_wp2_with fail
  go_loopw [5] (fun x0_ wx=>∃ k:Nat,x0_ = .int .i64 k/\k<=n/\Hid (∀ i,i<k->x i=y i)/\Hid (Ext w wx)) (fun x0_ _=>n-(intOf x0_).toNat)
  case atStart=>exact ⟨0,rfl,Nat.zero_le _,Hi42 ((fun i hi=>absurd hi (Nat.not_lt_zero i))),Hi42 (Ext.refl w)⟩
  case round =>
   rename World=>w1
   obtain ⟨k,rfl,hkk,HGk,HH⟩:=hrel
   have HX1:=Hi42 HH.out
   clear HH
   by_cases hlt:k<n
   ·have hlt2:(k:Int)<((n:Nat):Int):=by omega
    obtain ⟨aa,rfl,za_⟩:=HA.out k hlt
    obtain ⟨ab,rfl,zb_⟩:=HB.out k hlt
    have HCa:=Hi42 za_;have HCb:=Hi42 zb_;clear za_ zb_
    by_cases hz:x k=y k
    ·have z1:(x k != y k)=false:=by simpa using hz
     have HZ:=Hi42 hz;clear hz
     go_wp2_with fail
     refine region_e [.val (.slice (some aa) n c1_),.val (.int .i64 (k:Int)),.val (.pointer (some (aa.add k))),.val (.int .i64 (x k)),.val (.slice (some ab) n c2_),.val (.int .i64 (k:Int)),.val (.pointer (some (ab.add k))),.val (.int .i64 (y k)),.val (.bool false)] (fun L g W=>True) (S:=fun _=>False) (by kernel_rfl) (by kernel_rfl) (by kernel_rfl) (Mv.refl HX1.out (fun k h=>h.elim)) ?_ ?_ ?_ ?_ (fun gv_ w2 hm_ he_=>?_)
     ·exact fun _=>trivial
     ·exact fun _ _ _ _ h _=>h
     ·exact fun _ _ _ _ _ _ h=>h
     ·skip
      refine RV (fun A_ hs_ K_ hK_=>?_) ?_;· have q0_:=(hs_.old 0:A_.tmps[0]?.getD undef = .slice (some aa) n c1_);go_simp;exact fin_ hK_
      refine RV (fun A_ hs_ K_ hK_=>?_) ?_;· have q5_:=(hs_.old 5:A_.tmps[5]?.getD undef = .int .i64 (k:Int));go_simp;exact fin_ hK_
      refine RV (fun A_ hs_ K_ hK_=>?_) ?_;· have q17_:=hs_.val 0;have q18_:=hs_.val 1;go_simp;exact fin_ hK_
      refine RV (fun A_ hs_ K_ hK_=>?_) ?_;· have q19_:=hs_.val 2;have ca_k:=keepA hs_.mv.ext (HCa.out);go_simp;exact fin_ hK_
      refine RV (fun A_ hs_ K_ hK_=>?_) ?_;· have q1_:=(hs_.old 1:A_.tmps[1]?.getD undef = .slice (some ab) n c2_);go_simp;exact fin_ hK_
      refine RV (fun A_ hs_ K_ hK_=>?_) ?_;· have q5_:=(hs_.old 5:A_.tmps[5]?.getD undef = .int .i64 (k:Int));go_simp;exact fin_ hK_
      refine RV (fun A_ hs_ K_ hK_=>?_) ?_;· have q21_:=hs_.val 4;have q22_:=hs_.val 5;go_simp;exact fin_ hK_
      refine RV (fun A_ hs_ K_ hK_=>?_) ?_;· have q23_:=hs_.val 6;have cb_k:=keepA hs_.mv.ext (HCb.out);go_simp;exact fin_ hK_
      refine RV (fun A_ hs_ K_ hK_=>?_) ?_;· have q20_:=hs_.val 3;have q24_:=hs_.val 7;go_simp;exact fin_ hK_
      exact RnEL.nil
     simp only [fse,Ke.value,puts,Act.put,List.setIfInBounds_toArray,List.set_cons_zero,List.set_cons_succ]
     have HX2:Hid (Ext w w2):=Hi42 hm_.ext
     clear hm_ he_
     go_wp2_with fail
     go_roundw
     case rel=>exact ⟨k+1,by go_num,by omega,Hi42 (eq_next HZ.out HGk.out),Hi42 HX2.out⟩
     case measure=>simp [intOf];omega
    ·have z1:(x k != y k)=true:=by simpa using hz
     have HZ:=Hi42 hz;clear hz
     go_wp2_with fail
     refine region_e [.val (.slice (some aa) n c1_),.val (.int .i64 (k:Int)),.val (.pointer (some (aa.add k))),.val (.int .i64 (x k)),.val (.slice (some ab) n c2_),.val (.int .i64 (k:Int)),.val (.pointer (some (ab.add k))),.val (.int .i64 (y k)),.val (.bool true)] (fun L g W=>True) (S:=fun _=>False) (by kernel_rfl) (by kernel_rfl) (by kernel_rfl) (Mv.refl HX1.out (fun k h=>h.elim)) ?_ ?_ ?_ ?_ (fun gv_ w2 hm_ he_=>?_)
     ·exact fun _=>trivial
     ·exact fun _ _ _ _ h _=>h
     ·exact fun _ _ _ _ _ _ h=>h
     ·skip
      refine RV (fun A_ hs_ K_ hK_=>?_) ?_;· have q0_:=(hs_.old 0:A_.tmps[0]?.getD undef = .slice (some aa) n c1_);go_simp;exact fin_ hK_
      refine RV (fun A_ hs_ K_ hK_=>?_) ?_;· have q5_:=(hs_.old 5:A_.tmps[5]?.getD undef = .int .i64 (k:Int));go_simp;exact fin_ hK_
      refine RV (fun A_ hs_ K_ hK_=>?_) ?_;· have q17_:=hs_.val 0;have q18_:=hs_.val 1;go_simp;exact fin_ hK_
      refine RV (fun A_ hs_ K_ hK_=>?_) ?_;· have q19_:=hs_.val 2;have ca_k:=keepA hs_.mv.ext (HCa.out);go_simp;exact fin_ hK_
      refine RV (fun A_ hs_ K_ hK_=>?_) ?_;· have q1_:=(hs_.old 1:A_.tmps[1]?.getD undef = .slice (some ab) n c2_);go_simp;exact fin_ hK_
      refine RV (fun A_ hs_ K_ hK_=>?_) ?_;· have q5_:=(hs_.old 5:A_.tmps[5]?.getD undef = .int .i64 (k:Int));go_simp;exact fin_ hK_
      refine RV (fun A_ hs_ K_ hK_=>?_) ?_;· have q21_:=hs_.val 4;have q22_:=hs_.val 5;go_simp;exact fin_ hK_
      refine RV (fun A_ hs_ K_ hK_=>?_) ?_;· have q23_:=hs_.val 6;have cb_k:=keepA hs_.mv.ext (HCb.out);go_simp;exact fin_ hK_
      refine RV (fun A_ hs_ K_ hK_=>?_) ?_;· have q20_:=hs_.val 3;have q24_:=hs_.val 7;go_simp;exact fin_ hK_
      exact RnEL.nil
     simp only [fse,Ke.value,puts,Act.put,List.setIfInBounds_toArray,List.set_cons_zero,List.set_cons_succ]
     have HX2:Hid (Ext w w2):=Hi42 hm_.ext
     clear hm_ he_
     go_wp2
     go_ret
     exact ⟨by rw [sameB,decide_eq_false (fun h=>HZ.out (h.2 k hlt))];rfl,HX2.out⟩
   ·have hk2:k=n:=by omega
    have hge:¬ (k:Int)<((n:Nat):Int):=by omega
    go_wp2
    go_ret
    exact ⟨by rw [sameB,decide_eq_true ⟨rfl,fun i hi=>HGk.out i (by omega)⟩];rfl,HX1.out⟩
theorem same_c {va vb:Value} {n m:Nat} {x y:Nat->Int} {w:World} (ha:Ri w va n x) (hb:Ri w vb m y) (hn:n<=1000000):Calls Tryz.prog 26 #[va,vb] w (Ret w (.bool (sameB n m x y))):=by
 obtain ⟨a1,c1,rfl,_,_,h1⟩:=ha
 obtain ⟨a2,c2,rfl,_,_,h2⟩:=hb
 exact same_go a1 a2 c1 c2 n m x y w h1 h2 hn
theorem sameB_self (n:Nat) (x:Nat->Int):sameB n n x x=true:=decide_eq_true ⟨rfl,fun _ _=>rfl⟩
theorem same_fl {w X Y:World} {is:Nat->Bool} {k:Nat} {va vb:Value} (ha:FL X w is k va) (hb:FL Y w is k vb) (hk:k<=1000):Calls Tryz.prog 26 #[va,vb] w (Ret w (.bool true)):=by
 have:=same_c ha.ri hb.ri (by have:=@fil_len is k;omega)
 rwa [sameB_self] at this
theorem sz_next {t:Nat->ByteArray} {k:Nat} (h:(t k).size<=20) (h2:∀ i,i<k->(t i).size<=20):∀ i,i<k+1->(t i).size<=20:=fun i hi=>by
 by_cases e:i=k
 ·rw [e];exact h
 ·exact h2 i (by omega)
end Go.Proofs.YtcenemaadnlknaaGreatDoor
